/-
The law HunkRight's walk.
-/
import Derived.Outline
import Derived.Deep.DeepMust
import Derived.Test.YtlabiajcohmjhaaGM5
import Derived.Test.YtlabiajcohmjhaaGSame
import Derived.Test.YtlabiajcohmjhaaD9
import Derived.Test.YtlabiajcohmjhaaD10
import Derived.Test.YtlabiajcohmjhaaD11
import Derived.Test.YtlabiajcohmjhaaGAwakeH
import Derived.Test.YtlabiajcohmjhaaD8b
import Derived.Test.YtlabiajcohmjhaaD3b
import Derived.Test.YtlabiajcohmjhaaD5
import Derived.Test.YtlabiajcohmjhaaD6a
import Derived.Test.YtlabiajcohmjhaaD3d
namespace Go.Proofs.Ytlabiajcohmjhaa.Pr
open Go.RowKit Go.Proofs.YtlabiajcohmjhaaW.PrintWords Go.Proofs.YtlabiajcohmjhaaW.PrintLast Go.Proofs.YtlabiajcohmjhaaW.PrintMore
set_option linter.unusedVariables false
set_option linter.unusedSimpArgs false

def gright.T10 : Bool × List (List Nat × List Nat) := (true, [([], []), ([0], [0]), ([1], [1]), ([2, 1, 1], [1, 2]), ([1], [1]), ([4, 3, 1], [1, 4]), ([3, 5, 5, 1], [1, 3, 5]), ([1, 6], [1, 6]), ([7, 6], [7]), ([8], [8]), ([9, 8, 8], [8, 9]), ([8], [8]), ([11, 10, 8], [8, 11]), ([10, 12, 12, 8], [8, 10, 12]), ([8, 13], [8, 13]), ([14, 13, 0, 1, 2, 3, 4, 5, 6, 7, 8, 9, 10, 11, 12, 13, 14], [14])])
def gright.B10 : List Nat := [0, 1, 3, 7, 3, 31, 63, 127, 255, 511, 1023, 511, 4095, 8191, 16383, 32767]
theorem gright.tab10 : rtab .any (opsOf Try.f4 10) = gright.T10 := by kernel_rfl
theorem gright.bits10 : waitsOk gright.T10.2 gright.B10 = true := by kernel_rfl
def grapevinelaw05_HunkRight.f (k : Nat) (a0 a1 a2 a3 : Int) (l : List ByteArray) : Option Bool :=
 (grapevineref05_Few.f k [⟨a0, a1, a2, a3, l⟩]).bind fun small => if small = true then ((grapevineref05_Right.f k a0 a1 a2 a3 l).bind fun right => (hunk_Right.f k a0 a1 a2 a3 l).bind fun r2 => if r2 = right then (if right = true then
  ((hunk_Turn.f k a0 a1 a2 a3 l).bind fun t => (grapevineref05_Turn.f k a0 a1 a2 a3 l).bind fun u => (grapevineref05_One.f k t.1 t.2.1 t.2.2.1 t.2.2.2.1 t.2.2.2.2 u.1 u.2.1 u.2.2.1 u.2.2.2.1 u.2.2.2.2).bind fun one => if one = true then
   ((hunk_Edits.f k a0 a1 a2 a3 l).bind fun e1 => (grapevineref05_Edits.f k a0 a1 a2 a3 l).bind fun e2 => grapevineref04_Same.f e1 e2) else some false) else some true) else some false) else some true
set_option maxRecDepth 100000 in
set_option maxHeartbeats 4000000 in
theorem grapevinelaw05_HunkRight.calls (k : Nat) (a0 a1 a2 a3 : Int) (A : Option Addr) (c : Nat) (l : List ByteArray) (r : Bool) (w : World) (hrt_ : Aside0 (r = true)) (hr : Kd.C Kd.string w A l.length l) (hc : l.length ≤ c) (h : grapevinelaw05_HunkRight.f k a0 a1 a2 a3 l = some r) :
  Calls Try.prog 4 #[.agg #[.int .i64 a0, .int .i64 a1, .int .i64 a2, .int .i64 a3, .slice A l.length c]] w fun e w' => e = .returned (.bool r) ∧ Below w.heap.size w w' := by
 obtain rfl := hrt_.out
 have hu33 := Try.underlying33
 have HR := Aside0.mk hr
 have HC := Aside0.mk hc
 clear hr hc
 unfold grapevinelaw05_HunkRight.f at h
 obtain ⟨small, hf, h⟩ := Option.bind_eq_some_iff.1 h
 have HF := Aside0.mk hf
 have H := Aside0.mk h
 clear h hf
 go_enter Try.func4, Try.ntmps4
 go_upto_region 3 with (first
  | ((with_reducible refine gate_dst (N := 1) rfl ?_); refine box_event ?hg (N := 1) ?hd (cs := #[.int .i64 a0, .int .i64 a1, .int .i64 a2, .int .i64 a3, .slice A l.length c]) (t := 33) ?hr ?_; (case hd => rfl); (case hg => rfl); (case hr => first | (go_simp; done) | (go_simp; rfl)); intro g1 hg w1 hbox hb; have HX1 := Aside0.mk (HBox.mk (w := w) hbox hb); clear hg hbox hb; have hcA_0 : w1.cell? ⟨g1, 0, none⟩ = some (.int .i64 a0) := (blk_cell HX1.out.blk 0).trans rfl; have hcA_1 : w1.cell? ⟨g1, 1, none⟩ = some (.int .i64 a1) := (blk_cell HX1.out.blk 1).trans rfl; have hcA_2 : w1.cell? ⟨g1, 2, none⟩ = some (.int .i64 a2) := (blk_cell HX1.out.blk 2).trans rfl; have hcA_3 : w1.cell? ⟨g1, 3, none⟩ = some (.int .i64 a3) := (blk_cell HX1.out.blk 3).trans rfl; have hcA_4 : w1.cell? ⟨g1, 4, none⟩ = some (.slice A l.length c) := (blk_cell HX1.out.blk 4).trans rfl)
  | (go_at_call 9; (with_reducible refine (grapevinelaw05_awake.calls true _ rfl).mono ?_); rintro e w2 ⟨rfl, hb⟩; have HX2 := Aside0.mk (HX1.out.below hb); clear hb; have hcB_0 : w2.cell? ⟨g1, 0, none⟩ = some (.int .i64 a0) := (blk_cell HX2.out.blk 0).trans rfl; have hcB_1 : w2.cell? ⟨g1, 1, none⟩ = some (.int .i64 a1) := (blk_cell HX2.out.blk 1).trans rfl; have hcB_2 : w2.cell? ⟨g1, 2, none⟩ = some (.int .i64 a2) := (blk_cell HX2.out.blk 2).trans rfl; have hcB_3 : w2.cell? ⟨g1, 3, none⟩ = some (.int .i64 a3) := (blk_cell HX2.out.blk 3).trans rfl; have hcB_4 : w2.cell? ⟨g1, 4, none⟩ = some (.slice A l.length c) := (blk_cell HX2.out.blk 4).trans rfl)
  | (go_at_call 14; refine Calls.mono (show Calls Try.prog 14 #[.slice (some ⟨w2.heap.size, 0, none⟩) 1 1] _ (fun e w' => e = .returned (.bool small) ∧ Below _ _ w') from grapevineref05_Few.calls k (some ⟨w2.heap.size, 0, none⟩) 1 [⟨a0, a1, a2, a3, l⟩] small _ (lit_hunk w2 a0 a1 a2 a3 A c l HC.out (Kd.C_below HR.out HX2.out.bel)) (Nat.le_refl _) HF.out) ?_; rintro e w3 ⟨rfl, hb⟩; have HX3 := Aside0.mk ((HX2.out.alloc _).below hb); clear hb; have hcC_0 : w3.cell? ⟨g1, 0, none⟩ = some (.int .i64 a0) := (blk_cell HX3.out.blk 0).trans rfl; have hcC_1 : w3.cell? ⟨g1, 1, none⟩ = some (.int .i64 a1) := (blk_cell HX3.out.blk 1).trans rfl; have hcC_2 : w3.cell? ⟨g1, 2, none⟩ = some (.int .i64 a2) := (blk_cell HX3.out.blk 2).trans rfl; have hcC_3 : w3.cell? ⟨g1, 3, none⟩ = some (.int .i64 a3) := (blk_cell HX3.out.blk 3).trans rfl; have hcC_4 : w3.cell? ⟨g1, 4, none⟩ = some (.slice A l.length c) := (blk_cell HX3.out.blk 4).trans rfl))
 cases small with
 | false =>
  go_wp2
  go_ret
  exact ⟨rfl, HX3.out.bel⟩
 | true =>
  have h := H.out
  clear H
  rw [if_pos rfl] at h
  obtain ⟨right, hq, h⟩ := Option.bind_eq_some_iff.1 h
  obtain ⟨r2, hq2, h⟩ := Option.bind_eq_some_iff.1 h
  by_cases hrr : r2 = right
  case neg => rw [if_neg hrr] at h; exact absurd h (by simp)
  subst hrr
  rw [if_pos rfl] at h
  have HQ := Aside0.mk hq
  have HQ2 := Aside0.mk hq2
  have H := Aside0.mk h
  clear h hq hq2
  go_upto_region 6 with (first | (go_at_call 15; (with_reducible refine (grapevineref05_Right.calls k a0 a1 a2 a3 A c l r2 _ (Kd.C_below HR.out HX3.out.bel) HC.out HQ.out).mono ?_); rintro e w4 ⟨rfl, hb⟩; have HX4 := Aside0.mk (HX3.out.below hb); clear hb; have hcD_0 : w4.cell? ⟨g1, 0, none⟩ = some (.int .i64 a0) := (blk_cell HX4.out.blk 0).trans rfl; have hcD_1 : w4.cell? ⟨g1, 1, none⟩ = some (.int .i64 a1) := (blk_cell HX4.out.blk 1).trans rfl; have hcD_2 : w4.cell? ⟨g1, 2, none⟩ = some (.int .i64 a2) := (blk_cell HX4.out.blk 2).trans rfl; have hcD_3 : w4.cell? ⟨g1, 3, none⟩ = some (.int .i64 a3) := (blk_cell HX4.out.blk 3).trans rfl; have hcD_4 : w4.cell? ⟨g1, 4, none⟩ = some (.slice A l.length c) := (blk_cell HX4.out.blk 4).trans rfl))
  cases r2 with
  | false =>
   go_wp2_with (first | (go_at_call 16; (with_reducible refine (hunk_Right.calls k a0 a1 a2 a3 A c l false _ (Kd.C_below HR.out HX4.out.bel) HC.out HQ2.out).mono ?_); rintro e w5 ⟨rfl, hb⟩; have HX5 := Aside0.mk (HX4.out.below hb); clear hb))
   go_ret
   exact ⟨rfl, HX5.out.bel⟩
  | true =>
   have h := H.out
   clear H
   rw [if_pos rfl] at h
   obtain ⟨⟨t0, t1, t2, t3, t4⟩, hT, h⟩ := Option.bind_eq_some_iff.1 h
   obtain ⟨⟨u0, u1, u2, u3, u4⟩, hU, h⟩ := Option.bind_eq_some_iff.1 h
   obtain ⟨one, hO, h⟩ := Option.bind_eq_some_iff.1 h
   cases one with
   | false => rw [if_neg (by simp)] at h; exact absurd h (by simp)
   | true =>
    rw [if_pos rfl] at h
    obtain ⟨e1, hE1, h⟩ := Option.bind_eq_some_iff.1 h
    obtain ⟨e2, hE2, h⟩ := Option.bind_eq_some_iff.1 h
    have HT := Aside0.mk hT
    have HU := Aside0.mk hU
    have HO := Aside0.mk hO
    have HE1 := Aside0.mk hE1
    have HE2 := Aside0.mk hE2
    have HS := Aside0.mk h
    clear h hT hU hO hE1 hE2
    go_upto_region 10 with (first | (go_at_call 16; (with_reducible refine (hunk_Right.calls k a0 a1 a2 a3 A c l true _ (Kd.C_below HR.out HX4.out.bel) HC.out HQ2.out).mono ?_); rintro e w5 ⟨rfl, hb⟩; have HX5 := Aside0.mk (HX4.out.below hb); clear hb))
    have HX9 := Aside0.mk HX5.out.drew
    clear HX5
    refine start_ (n := 16) (S := fun w' => w'.cell? ⟨g1, 0, none⟩ = some (.int .i64 a0) ∧ w'.cell? ⟨g1, 1, none⟩ = some (.int .i64 a1) ∧ w'.cell? ⟨g1, 2, none⟩ = some (.int .i64 a2) ∧ w'.cell? ⟨g1, 3, none⟩ = some (.int .i64 a3) ∧ w'.cell? ⟨g1, 4, none⟩ = some (.slice A l.length c)) (ds := []) #[false, false, false, false, false, false, false, false, false, false, false, false, false, false, false, false] (by kernel_rfl) rfl rfl ⟨((blk_cell HX9.out.blk 0).trans rfl), ((blk_cell HX9.out.blk 1).trans rfl), ((blk_cell HX9.out.blk 2).trans rfl), ((blk_cell HX9.out.blk 3).trans rfl), ((blk_cell HX9.out.blk 4).trans rfl)⟩ (fun hHeld => ?_)
    refine with_tabW gright.tab10 gright.bits10 (fun HT_ HW_ => ?_)
    refine pure_ (i := 0) (N := some 22) (v := ?_) (a' := ?_) #[true, false, false, false, false, false, false, false, false, false, false, false, false, false, false, false] rfl rfl (any_of HT_.out (by kernel_rfl)) (fun _ _ _ h => h) (Or.inl ⟨by rfl, ?_⟩) ?_ ?_
    rotate_left
    ·intro w'
     go_simp
     with_reducible rfl
    rotate_left
    ·simp only [Act.put, List.setIfInBounds_toArray, List.set_cons_zero, List.set_cons_succ, i64_w, i32_w]
     rfl
    refine pure_ (i := 1) (N := some 23) (v := ?_) (a' := ?_) #[true, true, false, false, false, false, false, false, false, false, false, false, false, false, false, false] rfl rfl (any_of HT_.out (by kernel_rfl)) (fun _ _ _ h => h) (Or.inl ⟨by rfl, ?_⟩) ?_ ?_
    rotate_left
    ·intro w'
     go_simp
     with_reducible rfl
    rotate_left
    ·simp only [Act.put, List.setIfInBounds_toArray, List.set_cons_zero, List.set_cons_succ, i64_w, i32_w]
     rfl
    refine take_ (i := 2) (N := some 24) (v := ?_) (a' := ?_) #[true, true, true, false, false, false, false, false, false, false, false, false, false, false, false, false] rfl rfl (take_ofW HT_.out HW_.out (by kernel_rfl)) (fun _ _ _ h => h) (Or.inl ⟨by rfl, ?_⟩) hHeld ?_ ?_
    rotate_left
    ·rintro w' ⟨s0, s1, s2, s3, s4⟩
     go_simp
     with_reducible rfl
    rotate_left
    ·simp only [Act.put, List.setIfInBounds_toArray, List.set_cons_zero, List.set_cons_succ, i64_w, i32_w]
     rfl
    refine take_ (i := 4) (N := some 26) (v := ?_) (a' := ?_) #[true, true, true, false, true, false, false, false, false, false, false, false, false, false, false, false] rfl rfl (take_ofW HT_.out HW_.out (by kernel_rfl)) (fun _ _ _ h => h) (Or.inl ⟨by rfl, ?_⟩) hHeld ?_ ?_
    rotate_left
    ·rintro w' ⟨s0, s1, s2, s3, s4⟩
     go_simp
     with_reducible rfl
    rotate_left
    ·simp only [Act.put, List.setIfInBounds_toArray, List.set_cons_zero, List.set_cons_succ, i64_w, i32_w]
     rfl
    refine one_ (i := 3) (N := some 25) #[true, true, true, true, true, false, false, false, false, false, false, false, false, false, false, false] rfl rfl (one_of HT_.out (by kernel_rfl)) (by decide) (fun K hK => ?_)
    refine goes_ Try.func18 (by kernel_rfl) rfl #[.agg #[.int .i64 a0, .int .i64 a1, .int .i64 a2, .int .i64 a3, .slice A l.length c]] (by rfl) rfl rfl (by simp only [List.map_toArray, List.map_cons, List.map_nil]; rfl) ?_
    with_reducible refine (hunk_Turn.calls k a0 a1 a2 a3 _ A c l t0 t1 t2 t3 t4 _ (Kd.V_mk HC.out (Kd.C_F Kd.heap_string (Kd.C_below HR.out HX9.out.bel))) HT.out).mono ?_
    rintro e w10 ⟨v10, rfl, ho, hb⟩
    refine ⟨_, rfl, ?_⟩
    obtain ⟨A10, c10, e10⟩ := Kd.R_slice ho
    subst e10
    have HV10 := Aside0.mk (Kd.R_reads' ho).2
    have HX10 := Aside0.mk (HX9.out.below hb)
    clear ho hb
    refine hK.out _ _ ⟨((blk_cell HX10.out.blk 0).trans rfl), ((blk_cell HX10.out.blk 1).trans rfl), ((blk_cell HX10.out.blk 2).trans rfl), ((blk_cell HX10.out.blk 3).trans rfl), ((blk_cell HX10.out.blk 4).trans rfl)⟩ (fun hHeld => ?_)
    clear hK K
    refine norm_ (a' := ?_) ?_ ?_
    rotate_left
    ·show Act.put _ (some 25) _ = _
     simp only [Act.put, List.setIfInBounds_toArray, List.set_cons_zero, List.set_cons_succ, i64_w, i32_w]
     rfl
    refine one_ (i := 5) (N := some 27) #[true, true, true, true, true, true, false, false, false, false, false, false, false, false, false, false] rfl rfl (one_of HT_.out (by kernel_rfl)) (by decide) (fun K hK => ?_)
    refine goes_ Try.func19 (by kernel_rfl) rfl #[.agg #[.int .i64 a0, .int .i64 a1, .int .i64 a2, .int .i64 a3, .slice A l.length c]] (by rfl) rfl rfl (by simp only [List.map_toArray, List.map_cons, List.map_nil]; rfl) ?_
    with_reducible refine (grapevineref05_Turn.calls k a0 a1 a2 a3 A c l u0 u1 u2 u3 u4 _ (Kd.C_below HR.out HX10.out.bel) HC.out HU.out).mono ?_
    rintro e w11 ⟨v11, rfl, ho, hb⟩
    refine ⟨_, rfl, ?_⟩
    obtain ⟨A11, c11, e11⟩ := Kd.R_slice ho
    subst e11
    have HV11 := Aside0.mk (Kd.R_reads' ho).2
    have HV12 := Aside0.mk (Kd.C_below HV10.out.2 hb)
    have HX11 := Aside0.mk (HX10.out.below hb)
    clear ho hb
    refine hK.out _ _ ⟨((blk_cell HX11.out.blk 0).trans rfl), ((blk_cell HX11.out.blk 1).trans rfl), ((blk_cell HX11.out.blk 2).trans rfl), ((blk_cell HX11.out.blk 3).trans rfl), ((blk_cell HX11.out.blk 4).trans rfl)⟩ (fun hHeld => ?_)
    clear hK K
    refine norm_ (a' := ?_) ?_ ?_
    rotate_left
    ·show Act.put _ (some 27) _ = _
     simp only [Act.put, List.setIfInBounds_toArray, List.set_cons_zero, List.set_cons_succ, i64_w, i32_w]
     rfl
    refine one_ (i := 6) (N := some 28) #[true, true, true, true, true, true, true, false, false, false, false, false, false, false, false, false] rfl rfl (one_of HT_.out (by kernel_rfl)) (by decide) (fun K hK => ?_)
    refine goes_ Try.func17 (by kernel_rfl) rfl #[.agg #[.int .i64 t0, .int .i64 t1, .int .i64 t2, .int .i64 t3, .slice A10 t4.length c10], .agg #[.int .i64 u0, .int .i64 u1, .int .i64 u2, .int .i64 u3, .slice A11 u4.length c11]] (by rfl) rfl rfl (by simp only [List.map_toArray, List.map_cons, List.map_nil]; rfl) ?_
    with_reducible refine (grapevineref05_One.calls k t0 t1 t2 t3 A10 c10 t4 u0 u1 u2 u3 A11 c11 u4 true _ HV12.out HV10.out.1 HV11.out.2 HV11.out.1 HO.out).mono ?_
    rintro e w12 ⟨rfl, hb⟩
    refine ⟨_, rfl, ?_⟩
    have HX12 := Aside0.mk (HX11.out.below hb)
    clear hb
    refine hK.out _ _ ⟨((blk_cell HX12.out.blk 0).trans rfl), ((blk_cell HX12.out.blk 1).trans rfl), ((blk_cell HX12.out.blk 2).trans rfl), ((blk_cell HX12.out.blk 3).trans rfl), ((blk_cell HX12.out.blk 4).trans rfl)⟩ (fun hHeld => ?_)
    clear hK K
    refine norm_ (a' := ?_) ?_ ?_
    rotate_left
    ·show Act.put _ (some 28) _ = _
     simp only [Act.put, List.setIfInBounds_toArray, List.set_cons_zero, List.set_cons_succ, i64_w, i32_w]
     rfl
    refine pure_ (i := 7) (N := some 29) (v := ?_) (a' := ?_) #[true, true, true, true, true, true, true, true, false, false, false, false, false, false, false, false] rfl rfl (any_of HT_.out (by kernel_rfl)) (fun _ _ _ h => h) (Or.inl ⟨by rfl, ?_⟩) ?_ ?_
    rotate_left
    ·intro w'
     go_simp
     with_reducible rfl
    rotate_left
    ·simp only [Act.put, List.setIfInBounds_toArray, List.set_cons_zero, List.set_cons_succ, i64_w, i32_w]
     rfl
    refine pure_ (i := 8) (N := some 30) (v := ?_) (a' := ?_) #[true, true, true, true, true, true, true, true, true, false, false, false, false, false, false, false] rfl rfl (any_of HT_.out (by kernel_rfl)) (fun _ _ _ h => h) (Or.inl ⟨by rfl, ?_⟩) ?_ ?_
    rotate_left
    ·intro w'
     go_simp
     with_reducible rfl
    rotate_left
    ·simp only [Act.put, List.setIfInBounds_toArray, List.set_cons_zero, List.set_cons_succ, i64_w, i32_w]
     rfl
    refine take_ (i := 9) (N := some 31) (v := ?_) (a' := ?_) #[true, true, true, true, true, true, true, true, true, true, false, false, false, false, false, false] rfl rfl (take_ofW HT_.out HW_.out (by kernel_rfl)) (fun _ _ _ h => h) (Or.inl ⟨by rfl, ?_⟩) hHeld ?_ ?_
    rotate_left
    ·rintro w' ⟨s0, s1, s2, s3, s4⟩
     go_simp
     with_reducible rfl
    rotate_left
    ·simp only [Act.put, List.setIfInBounds_toArray, List.set_cons_zero, List.set_cons_succ, i64_w, i32_w]
     rfl
    refine take_ (i := 11) (N := some 33) (v := ?_) (a' := ?_) #[true, true, true, true, true, true, true, true, true, true, false, true, false, false, false, false] rfl rfl (take_ofW HT_.out HW_.out (by kernel_rfl)) (fun _ _ _ h => h) (Or.inl ⟨by rfl, ?_⟩) hHeld ?_ ?_
    rotate_left
    ·rintro w' ⟨s0, s1, s2, s3, s4⟩
     go_simp
     with_reducible rfl
    rotate_left
    ·simp only [Act.put, List.setIfInBounds_toArray, List.set_cons_zero, List.set_cons_succ, i64_w, i32_w]
     rfl
    refine one_ (i := 10) (N := some 32) #[true, true, true, true, true, true, true, true, true, true, true, true, false, false, false, false] rfl rfl (one_of HT_.out (by kernel_rfl)) (by decide) (fun K hK => ?_)
    refine goes_ Try.func21 (by kernel_rfl) rfl #[.agg #[.int .i64 a0, .int .i64 a1, .int .i64 a2, .int .i64 a3, .slice A l.length c]] (by rfl) rfl rfl (by simp only [List.map_toArray, List.map_cons, List.map_nil]; rfl) ?_
    with_reducible refine (hunk_Edits.calls k a0 a1 a2 a3 _ A c l e1 _ (Kd.V_mk HC.out (Kd.C_F Kd.heap_string (Kd.C_below HR.out HX12.out.bel))) HE1.out).mono ?_
    rintro e w13 ⟨v13, rfl, ho, hb⟩
    refine ⟨_, rfl, ?_⟩
    obtain ⟨A13, c13, e13⟩ := Kd.S_slice ho
    subst e13
    have HV13 := Aside0.mk (Kd.S_reads' ho).2
    have HX13 := Aside0.mk (HX12.out.below hb)
    clear ho hb
    refine hK.out _ _ ⟨((blk_cell HX13.out.blk 0).trans rfl), ((blk_cell HX13.out.blk 1).trans rfl), ((blk_cell HX13.out.blk 2).trans rfl), ((blk_cell HX13.out.blk 3).trans rfl), ((blk_cell HX13.out.blk 4).trans rfl)⟩ (fun hHeld => ?_)
    clear hK K
    refine norm_ (a' := ?_) ?_ ?_
    rotate_left
    ·show Act.put _ (some 32) _ = _
     simp only [Act.put, List.setIfInBounds_toArray, List.set_cons_zero, List.set_cons_succ, i64_w, i32_w]
     rfl
    refine one_ (i := 12) (N := some 34) #[true, true, true, true, true, true, true, true, true, true, true, true, true, false, false, false] rfl rfl (one_of HT_.out (by kernel_rfl)) (by decide) (fun K hK => ?_)
    refine goes_ Try.func22 (by kernel_rfl) rfl #[.agg #[.int .i64 a0, .int .i64 a1, .int .i64 a2, .int .i64 a3, .slice A l.length c]] (by rfl) rfl rfl (by simp only [List.map_toArray, List.map_cons, List.map_nil]; rfl) ?_
    with_reducible refine (grapevineref05_Edits.calls k a0 a1 a2 a3 A c l e2 _ (Kd.C_below HR.out HX13.out.bel) HC.out HE2.out).mono ?_
    rintro e w14 ⟨v14, rfl, ho, hb⟩
    refine ⟨_, rfl, ?_⟩
    obtain ⟨A14, c14, e14⟩ := Kd.S_slice ho
    subst e14
    have HV14 := Aside0.mk (Kd.S_reads' ho).2
    have HV15 := Aside0.mk (Kd.C_below HV13.out.2 hb)
    have HX14 := Aside0.mk (HX13.out.below hb)
    clear ho hb
    refine hK.out _ _ ⟨((blk_cell HX14.out.blk 0).trans rfl), ((blk_cell HX14.out.blk 1).trans rfl), ((blk_cell HX14.out.blk 2).trans rfl), ((blk_cell HX14.out.blk 3).trans rfl), ((blk_cell HX14.out.blk 4).trans rfl)⟩ (fun hHeld => ?_)
    clear hK K
    refine norm_ (a' := ?_) ?_ ?_
    rotate_left
    ·show Act.put _ (some 34) _ = _
     simp only [Act.put, List.setIfInBounds_toArray, List.set_cons_zero, List.set_cons_succ, i64_w, i32_w]
     rfl
    refine one_ (i := 13) (N := some 35) #[true, true, true, true, true, true, true, true, true, true, true, true, true, true, false, false] rfl rfl (one_of HT_.out (by kernel_rfl)) (by decide) (fun K hK => ?_)
    refine goes_ Try.func20 (by kernel_rfl) rfl #[.slice A13 e1.length c13, .slice A14 e2.length c14] (by rfl) rfl rfl (by simp only [List.map_toArray, List.map_cons, List.map_nil]; rfl) ?_
    with_reducible refine (grapevineref04_Same.calls A13 c13 e1 A14 c14 e2 true _ HV15.out HV13.out.1 HV14.out.2 HV14.out.1 HS.out).mono ?_
    rintro e w15 ⟨rfl, hd⟩
    refine ⟨_, rfl, ?_⟩
    have hb : Below w14.heap.size w14 w15 := by obtain ⟨m, hm⟩ := hd.out; rw [hm]; exact pw_below_drewN (Below.refl _ _) m
    have HX15 := Aside0.mk (HX14.out.below hb)
    clear hb hd
    refine hK.out _ _ ⟨((blk_cell HX15.out.blk 0).trans rfl), ((blk_cell HX15.out.blk 1).trans rfl), ((blk_cell HX15.out.blk 2).trans rfl), ((blk_cell HX15.out.blk 3).trans rfl), ((blk_cell HX15.out.blk 4).trans rfl)⟩ (fun hHeld => ?_)
    clear hK K
    refine norm_ (a' := ?_) ?_ ?_
    rotate_left
    ·show Act.put _ (some 35) _ = _
     simp only [Act.put, List.setIfInBounds_toArray, List.set_cons_zero, List.set_cons_succ, i64_w, i32_w]
     rfl
    refine pure_ (i := 14) (N := some 36) (v := ?_) (a' := ?_) #[true, true, true, true, true, true, true, true, true, true, true, true, true, true, true, false] rfl rfl (any_of HT_.out (by kernel_rfl)) (fun _ _ _ h => h) (Or.inl ⟨by rfl, ?_⟩) ?_ ?_
    rotate_left
    ·intro w'
     go_simp
     with_reducible rfl
    rotate_left
    ·simp only [Act.put, List.setIfInBounds_toArray, List.set_cons_zero, List.set_cons_succ, i64_w, i32_w]
     rfl
    refine pure_ (i := 15) (N := some 2) (v := ?_) (a' := ?_) #[true, true, true, true, true, true, true, true, true, true, true, true, true, true, true, true] rfl rfl (any_of HT_.out (by kernel_rfl)) (fun _ _ _ h => h) (Or.inl ⟨by rfl, ?_⟩) ?_ ?_
    rotate_left
    ·intro w'
     go_simp
     with_reducible rfl
    rotate_left
    ·simp only [Act.put, List.setIfInBounds_toArray, List.set_cons_zero, List.set_cons_succ, i64_w, i32_w]
     rfl
    refine done_ (done_of HT_.out (by kernel_rfl)) ?_

    go_wp2
    go_ret
    exact ⟨rfl, HX15.out.bel⟩
end Go.Proofs.Ytlabiajcohmjhaa.Pr
-- shrunk
