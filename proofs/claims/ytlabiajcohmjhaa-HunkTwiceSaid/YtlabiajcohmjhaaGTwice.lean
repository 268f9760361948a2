/-
The law HunkTwice's walk.
-/
import Derived.Outline
import Derived.Deep.DeepMust
import Derived.Test.YtlabiajcohmjhaaGM5
import Derived.Test.YtlabiajcohmjhaaGAwakeH
import Derived.Test.YtlabiajcohmjhaaD8b
import Derived.Test.YtlabiajcohmjhaaD3b
import Derived.Test.YtlabiajcohmjhaaD5
import Derived.Test.YtlabiajcohmjhaaD6a
import Derived.Test.YtlabiajcohmjhaaD3d
namespace Go.Proofs.Ytlabiajcohmjhaa.Pr
open Go.RowKit Go.Proofs.YtlabiajcohmjhaaW.PrintWords Go.Proofs.YtlabiajcohmjhaaW.PrintLast Go.Proofs.YtlabiajcohmjhaaW.PrintMore
set_option linter.unusedVariables false
set_option linter.unusedSimpArgs false

def gtwice.T11 : Bool × List (List Nat × List Nat) := (true, [([], []), ([0], [0]), ([1], [1]), ([2, 1, 1], [1, 2]), ([1], [1]), ([3, 4, 3, 1], [1, 3, 4]), ([1, 5], [1, 5]), ([6, 5], [6]), ([7], [7]), ([8, 7, 7], [7, 8]), ([9, 7], [7, 9]), ([7], [7]), ([11, 9, 7], [7, 11]), ([12, 7], [7, 12]), ([10, 13, 7], [7, 10, 13]), ([7, 14], [7, 14]), ([15, 12, 0, 1, 2, 3, 4, 5, 6, 7, 8, 9, 10, 11, 12, 13, 14, 15], [15])])
def gtwice.B11 : List Nat := [0, 1, 3, 7, 3, 31, 63, 127, 255, 511, 1023, 255, 3071, 7167, 16383, 32767, 65535]
theorem gtwice.tab11 : rtab .any (opsOf Try.f5 11) = gtwice.T11 := by kernel_rfl
theorem gtwice.bits11 : waitsOk gtwice.T11.2 gtwice.B11 = true := by kernel_rfl
def grapevinelaw05_HunkTwice.f (k : Nat) (a0 a1 a2 a3 : Int) (l : List ByteArray) : Option Bool :=
 (grapevineref05_Few.f k [⟨a0, a1, a2, a3, l⟩]).bind fun small => if small = true then ((hunk_Right.f k a0 a1 a2 a3 l).bind fun right => if right = true then ((hunk_Turn.f k a0 a1 a2 a3 l).bind fun t =>
  (hunk_Right.f k t.1 t.2.1 t.2.2.1 t.2.2.2.1 t.2.2.2.2).bind fun r2 => if r2 = true then ((hunk_Turn.f k t.1 t.2.1 t.2.2.1 t.2.2.2.1 t.2.2.2.2).bind fun u =>
   (grapevineref05_One.f k u.1 u.2.1 u.2.2.1 u.2.2.2.1 u.2.2.2.2 a0 a1 a2 a3 l).bind fun one => if one = true then ((hunk_Edits.f k t.1 t.2.1 t.2.2.1 t.2.2.2.1 t.2.2.2.2).bind fun e1 => (hunk_Edits.f k a0 a1 a2 a3 l).bind fun e2 => some (decide (e1.length = e2.length))) else some false) else some false) else some true) else some true
set_option maxRecDepth 100000 in
set_option maxHeartbeats 4000000 in
theorem grapevinelaw05_HunkTwice.calls (k : Nat) (a0 a1 a2 a3 : Int) (A : Option Addr) (c : Nat) (l : List ByteArray) (r : Bool) (w : World) (hrt_ : Aside0 (r = true)) (hr : Kd.C Kd.string w A l.length l) (hc : l.length ≤ c) (h : grapevinelaw05_HunkTwice.f k a0 a1 a2 a3 l = some r) :
  Calls Try.prog 5 #[.agg #[.int .i64 a0, .int .i64 a1, .int .i64 a2, .int .i64 a3, .slice A l.length c]] w fun e w' => e = .returned (.bool r) ∧ Below w.heap.size w w' := by
 obtain rfl := hrt_.out
 have hu33 := Try.underlying33
 have HR := Aside0.mk hr
 have HC := Aside0.mk hc
 clear hr hc
 unfold grapevinelaw05_HunkTwice.f at h
 obtain ⟨small, hf, h⟩ := Option.bind_eq_some_iff.1 h
 have HF := Aside0.mk hf
 have H := Aside0.mk h
 clear h hf
 go_enter Try.func5, Try.ntmps5
 go_upto_region 3 with (first
  | ((with_reducible refine gate_dst (N := 1) rfl ?_); refine box_event ?hg (N := 1) ?hd (cs := #[.int .i64 a0, .int .i64 a1, .int .i64 a2, .int .i64 a3, .slice A l.length c]) (t := 33) ?hr ?_; (case hd => rfl); (case hg => rfl); (case hr => first | (go_simp; done) | (go_simp; rfl)); intro g1 hg w1 hbox hb; have HX1 := Aside0.mk (HBox.mk (w := w) hbox hb); clear hg hbox hb; have hcA_0 : w1.cell? ⟨g1, 0, none⟩ = some (.int .i64 a0) := (blk_cell HX1.out.blk 0).trans rfl; have hcA_1 : w1.cell? ⟨g1, 1, none⟩ = some (.int .i64 a1) := (blk_cell HX1.out.blk 1).trans rfl; have hcA_2 : w1.cell? ⟨g1, 2, none⟩ = some (.int .i64 a2) := (blk_cell HX1.out.blk 2).trans rfl; have hcA_3 : w1.cell? ⟨g1, 3, none⟩ = some (.int .i64 a3) := (blk_cell HX1.out.blk 3).trans rfl; have hcA_4 : w1.cell? ⟨g1, 4, none⟩ = some (.slice A l.length c) := (blk_cell HX1.out.blk 4).trans rfl)
  | (go_at_call 9; (with_reducible refine (grapevinelaw05_awake.calls true _ rfl).mono ?_); rintro e w2 ⟨rfl, hb⟩; have HX2 := Aside0.mk (HX1.out.below hb); clear hb; have hcB_0 : w2.cell? ⟨g1, 0, none⟩ = some (.int .i64 a0) := (blk_cell HX2.out.blk 0).trans rfl; have hcB_1 : w2.cell? ⟨g1, 1, none⟩ = some (.int .i64 a1) := (blk_cell HX2.out.blk 1).trans rfl; have hcB_2 : w2.cell? ⟨g1, 2, none⟩ = some (.int .i64 a2) := (blk_cell HX2.out.blk 2).trans rfl; have hcB_3 : w2.cell? ⟨g1, 3, none⟩ = some (.int .i64 a3) := (blk_cell HX2.out.blk 3).trans rfl; have hcB_4 : w2.cell? ⟨g1, 4, none⟩ = some (.slice A l.length c) := (blk_cell HX2.out.blk 4).trans rfl)
  | (go_at_call 14; refine Calls.mono (show Calls Try.prog 14 #[.slice (some ⟨w2.heap.size, 0, none⟩) 1 1] _ (fun e w' => e = .returned (.bool small) ∧ Below _ _ w') from grapevineref05_Few.calls k (some ⟨w2.heap.size, 0, none⟩) 1 [⟨a0, a1, a2, a3, l⟩] small _ (lit_hunk w2 a0 a1 a2 a3 A c l HC.out (Kd.C_below HR.out HX2.out.bel)) (Nat.le_refl _) HF.out) ?_; rintro e w3 ⟨rfl, hb⟩; have HX3 := Aside0.mk ((HX2.out.alloc _).below hb); clear hb; have hcC_0 : w3.cell? ⟨g1, 0, none⟩ = some (.int .i64 a0) := (blk_cell HX3.out.blk 0).trans rfl; have hcC_1 : w3.cell? ⟨g1, 1, none⟩ = some (.int .i64 a1) := (blk_cell HX3.out.blk 1).trans rfl; have hcC_2 : w3.cell? ⟨g1, 2, none⟩ = some (.int .i64 a2) := (blk_cell HX3.out.blk 2).trans rfl; have hcC_3 : w3.cell? ⟨g1, 3, none⟩ = some (.int .i64 a3) := (blk_cell HX3.out.blk 3).trans rfl; have hcC_4 : w3.cell? ⟨g1, 4, none⟩ = some (.slice A l.length c) := (blk_cell HX3.out.blk 4).trans rfl))
 cases small with
 | false =>
  go_wp2
  go_ret
  exact ⟨rfl, HX3.out.bel⟩
 | true =>
  have h := H.out
  clear H
  rw [if_pos rfl] at h
  obtain ⟨right, hq, h⟩ := Option.bind_eq_some_iff.1 h
  have HQ := Aside0.mk hq
  have H := Aside0.mk h
  clear h hq
  go_upto_region 6 with (first | (go_at_call 16; (with_reducible refine (hunk_Right.calls k a0 a1 a2 a3 A c l right _ (Kd.C_below HR.out HX3.out.bel) HC.out HQ.out).mono ?_); rintro e w4 ⟨rfl, hb⟩; have HX4 := Aside0.mk (HX3.out.below hb); clear hb; have hcD_0 : w4.cell? ⟨g1, 0, none⟩ = some (.int .i64 a0) := (blk_cell HX4.out.blk 0).trans rfl; have hcD_1 : w4.cell? ⟨g1, 1, none⟩ = some (.int .i64 a1) := (blk_cell HX4.out.blk 1).trans rfl; have hcD_2 : w4.cell? ⟨g1, 2, none⟩ = some (.int .i64 a2) := (blk_cell HX4.out.blk 2).trans rfl; have hcD_3 : w4.cell? ⟨g1, 3, none⟩ = some (.int .i64 a3) := (blk_cell HX4.out.blk 3).trans rfl; have hcD_4 : w4.cell? ⟨g1, 4, none⟩ = some (.slice A l.length c) := (blk_cell HX4.out.blk 4).trans rfl))
  cases right with
  | false =>
   go_wp2
   go_ret
   exact ⟨rfl, HX4.out.bel⟩
  | true =>
   have h := H.out
   clear H
   rw [if_pos rfl] at h
   obtain ⟨⟨t0, t1, t2, t3, t4⟩, hT, h⟩ := Option.bind_eq_some_iff.1 h
   obtain ⟨r2, hR2, h⟩ := Option.bind_eq_some_iff.1 h
   cases r2 with
   | false => rw [if_neg (by simp)] at h; exact absurd h (by simp)
   | true =>
    rw [if_pos rfl] at h
    obtain ⟨⟨u0, u1, u2, u3, u4⟩, hU, h⟩ := Option.bind_eq_some_iff.1 h
    obtain ⟨one, hO, h⟩ := Option.bind_eq_some_iff.1 h
    cases one with
    | false => rw [if_neg (by simp)] at h; exact absurd h (by simp)
    | true =>
     rw [if_pos rfl] at h
     obtain ⟨e1, hE1, h⟩ := Option.bind_eq_some_iff.1 h
     obtain ⟨e2, hE2, h⟩ := Option.bind_eq_some_iff.1 h
     have hle : e1.length = e2.length := of_decide_eq_true (Option.some.inj h)
     have HT := Aside0.mk hT
     have HR2 := Aside0.mk hR2
     have HU := Aside0.mk hU
     have HO := Aside0.mk hO
     have HE1 := Aside0.mk hE1
     have HE2 := Aside0.mk hE2
     have kle : ((e1.length : Int) == (e2.length : Int)) = true := beq_iff_eq.2 (by omega)
     have kle2 : (e1.length == e2.length) = true := beq_iff_eq.2 hle
     clear h hT hR2 hU hO hE1 hE2
     go_upto_region 9 with (first | (go_at_call 18; (with_reducible refine (hunk_Turn.calls k a0 a1 a2 a3 (fun k_ => k_ < w4.heap.size) A c l t0 t1 t2 t3 t4 _ (Kd.V_mk HC.out (Kd.C_F Kd.heap_string (Kd.C_below HR.out HX4.out.bel))) HT.out).mono ?_); rintro e w5 ⟨v5, rfl, ho, hb⟩; obtain ⟨A5, c5, e5⟩ := Kd.R_slice ho; subst e5; have HO5 := Aside0.mk (Kd.R_reads' ho).2; have HX5 := Aside0.mk (HX4.out.below hb); clear ho hb) | ((with_reducible refine gate_dst (N := 6) rfl ?_); refine box_event ?hg (N := 6) ?hd (cs := #[.int .i64 0, .int .i64 0, .int .i64 0, .int .i64 0, .slice none 0 0]) (t := 33) ?hr ?_; (case hd => rfl); (case hg => rfl); (case hr => first | (go_simp; done) | (go_simp; rfl)); intro g2 hg w6 hbox hb; have HBK := Aside0.mk hbox; have HB6 := Aside0.mk hb; have HG2 := Aside0.mk hg; clear hg hbox hb; have hz_0 : w6.cell? ⟨g2, 0, none⟩ = some (.int .i64 0) := (blk_cell HBK.out 0).trans rfl; have hz_1 : w6.cell? ⟨g2, 1, none⟩ = some (.int .i64 0) := (blk_cell HBK.out 1).trans rfl; have hz_2 : w6.cell? ⟨g2, 2, none⟩ = some (.int .i64 0) := (blk_cell HBK.out 2).trans rfl; have hz_3 : w6.cell? ⟨g2, 3, none⟩ = some (.int .i64 0) := (blk_cell HBK.out 3).trans rfl; have hz_4 : w6.cell? ⟨g2, 4, none⟩ = some (.slice none 0 0) := (blk_cell HBK.out 4).trans rfl; have hfz_0 := blk_frozen HBK.out 0; have hfz_1 := blk_frozen HBK.out 1; have hfz_2 := blk_frozen HBK.out 2; have hfz_3 := blk_frozen HBK.out 3; have hfz_4 := blk_frozen HBK.out 4) | ((with_reducible refine gate_store (t := 33) (p := 6) rfl ?_); refine store_event (t := 33) (p := 6) (v := ?vo_) (w1 := (((((w6.setCell ⟨g2, 0, none⟩ (.int .i64 t0)).setCell ⟨g2, 1, none⟩ (.int .i64 t1)).setCell ⟨g2, 2, none⟩ (.int .i64 t2)).setCell ⟨g2, 3, none⟩ (.int .i64 t3)).setCell ⟨g2, 4, none⟩ (.slice A5 t4.length c5))) ?hg ?ho ?hn ?hr ?_; (case ho => rfl); (case hg => rfl); (case hn => rfl); (case hr => first | (go_simp; done) | (go_simp; rfl)); intro w7 hw; have HB7 := Aside0.mk (show Below w5.heap.size w5 w7 by rw [hw]; exact below_five HB6.out (Nat.le_of_eq HG2.out.symm)); have HY7 := Aside0.mk (HBox.mk (w := w) (W := w7) (g := g2) (cs := #[.int .i64 t0, .int .i64 t1, .int .i64 t2, .int .i64 t3, .slice A5 t4.length c5]) (by rw [hw]; exact set_five HBK.out) (below_then HX5.out.bel HX5.out.bel.size HB7.out)); have HX7 := Aside0.mk (HX5.out.below HB7.out); have HO7 := Aside0.mk (Kd.C_below HO5.out.2 HB7.out); clear hw; have hcG_0 : w7.cell? ⟨g1, 0, none⟩ = some (.int .i64 a0) := (blk_cell HX7.out.blk 0).trans rfl; have hcG_1 : w7.cell? ⟨g1, 1, none⟩ = some (.int .i64 a1) := (blk_cell HX7.out.blk 1).trans rfl; have hcG_2 : w7.cell? ⟨g1, 2, none⟩ = some (.int .i64 a2) := (blk_cell HX7.out.blk 2).trans rfl; have hcG_3 : w7.cell? ⟨g1, 3, none⟩ = some (.int .i64 a3) := (blk_cell HX7.out.blk 3).trans rfl; have hcG_4 : w7.cell? ⟨g1, 4, none⟩ = some (.slice A l.length c) := (blk_cell HX7.out.blk 4).trans rfl; have hcH_0 : w7.cell? ⟨g2, 0, none⟩ = some (.int .i64 t0) := (blk_cell HY7.out.blk 0).trans rfl; have hcH_1 : w7.cell? ⟨g2, 1, none⟩ = some (.int .i64 t1) := (blk_cell HY7.out.blk 1).trans rfl; have hcH_2 : w7.cell? ⟨g2, 2, none⟩ = some (.int .i64 t2) := (blk_cell HY7.out.blk 2).trans rfl; have hcH_3 : w7.cell? ⟨g2, 3, none⟩ = some (.int .i64 t3) := (blk_cell HY7.out.blk 3).trans rfl; have hcH_4 : w7.cell? ⟨g2, 4, none⟩ = some (.slice A5 t4.length c5) := (blk_cell HY7.out.blk 4).trans rfl))
     go_upto_region 11 with (first | (go_at_call 16; (with_reducible refine (hunk_Right.calls k t0 t1 t2 t3 A5 c5 t4 true _ HO7.out HO5.out.1 HR2.out).mono ?_); rintro e w8 ⟨rfl, hb⟩; have HX8 := Aside0.mk (HX7.out.below hb); have HY8 := Aside0.mk (HY7.out.below hb); have HO8 := Aside0.mk (Kd.C_below HO7.out hb); clear hb))
     have HX9 := Aside0.mk HX8.out.drew
     have HY9 := Aside0.mk HY8.out.drew
     have HO9 := Aside0.mk (Kd.C_drew HO8.out)
     clear HX7 HY7 HO7 HX8 HY8 HO8
     refine start_ (n := 17) (S := fun w' => w'.cell? ⟨g1, 0, none⟩ = some (.int .i64 a0) ∧ w'.cell? ⟨g1, 1, none⟩ = some (.int .i64 a1) ∧ w'.cell? ⟨g1, 2, none⟩ = some (.int .i64 a2) ∧ w'.cell? ⟨g1, 3, none⟩ = some (.int .i64 a3) ∧ w'.cell? ⟨g1, 4, none⟩ = some (.slice A l.length c) ∧ w'.cell? ⟨g2, 0, none⟩ = some (.int .i64 t0) ∧ w'.cell? ⟨g2, 1, none⟩ = some (.int .i64 t1) ∧ w'.cell? ⟨g2, 2, none⟩ = some (.int .i64 t2) ∧ w'.cell? ⟨g2, 3, none⟩ = some (.int .i64 t3) ∧ w'.cell? ⟨g2, 4, none⟩ = some (.slice A5 t4.length c5)) (ds := []) #[false, false, false, false, false, false, false, false, false, false, false, false, false, false, false, false, false] (by kernel_rfl) rfl rfl ⟨((blk_cell HX9.out.blk 0).trans rfl), ((blk_cell HX9.out.blk 1).trans rfl), ((blk_cell HX9.out.blk 2).trans rfl), ((blk_cell HX9.out.blk 3).trans rfl), ((blk_cell HX9.out.blk 4).trans rfl), ((blk_cell HY9.out.blk 0).trans rfl), ((blk_cell HY9.out.blk 1).trans rfl), ((blk_cell HY9.out.blk 2).trans rfl), ((blk_cell HY9.out.blk 3).trans rfl), ((blk_cell HY9.out.blk 4).trans rfl)⟩ (fun hHeld => ?_)
     refine with_tabW gtwice.tab11 gtwice.bits11 (fun HT_ HW_ => ?_)
     refine pure_ (i := 0) (N := some 24) (v := ?_) (a' := ?_) #[true, false, false, false, false, false, false, false, false, false, false, false, false, false, false, false, false] rfl rfl (any_of HT_.out (by kernel_rfl)) (fun _ _ _ h => h) (Or.inl ⟨by rfl, ?_⟩) ?_ ?_
     rotate_left
     ·intro w'
      go_simp
      with_reducible rfl
     rotate_left
     ·simp only [Act.put, List.setIfInBounds_toArray, List.set_cons_zero, List.set_cons_succ, i64_w, i32_w]
      rfl
     refine pure_ (i := 1) (N := some 25) (v := ?_) (a' := ?_) #[true, true, false, false, false, false, false, false, false, false, false, false, false, false, false, false, false] rfl rfl (any_of HT_.out (by kernel_rfl)) (fun _ _ _ h => h) (Or.inl ⟨by rfl, ?_⟩) ?_ ?_
     rotate_left
     ·intro w'
      go_simp
      with_reducible rfl
     rotate_left
     ·simp only [Act.put, List.setIfInBounds_toArray, List.set_cons_zero, List.set_cons_succ, i64_w, i32_w]
      rfl
     refine take_ (i := 2) (N := some 26) (v := ?_) (a' := ?_) #[true, true, true, false, false, false, false, false, false, false, false, false, false, false, false, false, false] rfl rfl (take_ofW HT_.out HW_.out (by kernel_rfl)) (fun _ _ _ h => h) (Or.inl ⟨by rfl, ?_⟩) hHeld ?_ ?_
     rotate_left
     ·rintro w' ⟨s0, s1, s2, s3, s4, s5, s6, s7, s8, s9⟩
      go_simp
      with_reducible rfl
     rotate_left
     ·simp only [Act.put, List.setIfInBounds_toArray, List.set_cons_zero, List.set_cons_succ, i64_w, i32_w]
      rfl
     refine take_ (i := 4) (N := some 28) (v := ?_) (a' := ?_) #[true, true, true, false, true, false, false, false, false, false, false, false, false, false, false, false, false] rfl rfl (take_ofW HT_.out HW_.out (by kernel_rfl)) (fun _ _ _ h => h) (Or.inl ⟨by rfl, ?_⟩) hHeld ?_ ?_
     rotate_left
     ·rintro w' ⟨s0, s1, s2, s3, s4, s5, s6, s7, s8, s9⟩
      go_simp
      with_reducible rfl
     rotate_left
     ·simp only [Act.put, List.setIfInBounds_toArray, List.set_cons_zero, List.set_cons_succ, i64_w, i32_w]
      rfl
     refine one_ (i := 3) (N := some 27) #[true, true, true, true, true, false, false, false, false, false, false, false, false, false, false, false, false] rfl rfl (one_of HT_.out (by kernel_rfl)) (by decide) (fun K hK => ?_)
     refine goes_ Try.func18 (by kernel_rfl) rfl #[.agg #[.int .i64 t0, .int .i64 t1, .int .i64 t2, .int .i64 t3, .slice A5 t4.length c5]] (by rfl) rfl rfl (by simp only [List.map_toArray, List.map_cons, List.map_nil]; rfl) ?_
     with_reducible refine (hunk_Turn.calls k t0 t1 t2 t3 _ A5 c5 t4 u0 u1 u2 u3 u4 _ (Kd.V_mk HO5.out.1 (Kd.C_F Kd.heap_string HO9.out)) HU.out).mono ?_
     rintro e w10 ⟨v10, rfl, ho, hb⟩
     refine ⟨_, rfl, ?_⟩
     obtain ⟨A10, c10, e10⟩ := Kd.R_slice ho
     subst e10
     have HV10 := Aside0.mk (Kd.R_reads' ho).2
     have HX10 := Aside0.mk (HX9.out.below hb)
     have HY10 := Aside0.mk (HY9.out.below hb)
     have HO10 := Aside0.mk (Kd.C_below HO9.out hb)
     clear ho hb
     refine hK.out _ _ ⟨((blk_cell HX10.out.blk 0).trans rfl), ((blk_cell HX10.out.blk 1).trans rfl), ((blk_cell HX10.out.blk 2).trans rfl), ((blk_cell HX10.out.blk 3).trans rfl), ((blk_cell HX10.out.blk 4).trans rfl), ((blk_cell HY10.out.blk 0).trans rfl), ((blk_cell HY10.out.blk 1).trans rfl), ((blk_cell HY10.out.blk 2).trans rfl), ((blk_cell HY10.out.blk 3).trans rfl), ((blk_cell HY10.out.blk 4).trans rfl)⟩ (fun hHeld => ?_)
     clear hK K
     refine norm_ (a' := ?_) ?_ ?_
     rotate_left
     ·show Act.put _ (some 27) _ = _
      simp only [Act.put, List.setIfInBounds_toArray, List.set_cons_zero, List.set_cons_succ, i64_w, i32_w]
      rfl
     refine one_ (i := 5) (N := some 29) #[true, true, true, true, true, true, false, false, false, false, false, false, false, false, false, false, false] rfl rfl (one_of HT_.out (by kernel_rfl)) (by decide) (fun K hK => ?_)
     refine goes_ Try.func17 (by kernel_rfl) rfl #[.agg #[.int .i64 u0, .int .i64 u1, .int .i64 u2, .int .i64 u3, .slice A10 u4.length c10], .agg #[.int .i64 a0, .int .i64 a1, .int .i64 a2, .int .i64 a3, .slice A l.length c]] (by rfl) rfl rfl (by simp only [List.map_toArray, List.map_cons, List.map_nil]; rfl) ?_
     with_reducible refine (grapevineref05_One.calls k u0 u1 u2 u3 A10 c10 u4 a0 a1 a2 a3 A c l true _ HV10.out.2 HV10.out.1 (Kd.C_below HR.out HX10.out.bel) HC.out HO.out).mono ?_
     rintro e w11 ⟨rfl, hb⟩
     refine ⟨_, rfl, ?_⟩
     have HX11 := Aside0.mk (HX10.out.below hb)
     have HY11 := Aside0.mk (HY10.out.below hb)
     have HO11 := Aside0.mk (Kd.C_below HO10.out hb)
     clear hb
     refine hK.out _ _ ⟨((blk_cell HX11.out.blk 0).trans rfl), ((blk_cell HX11.out.blk 1).trans rfl), ((blk_cell HX11.out.blk 2).trans rfl), ((blk_cell HX11.out.blk 3).trans rfl), ((blk_cell HX11.out.blk 4).trans rfl), ((blk_cell HY11.out.blk 0).trans rfl), ((blk_cell HY11.out.blk 1).trans rfl), ((blk_cell HY11.out.blk 2).trans rfl), ((blk_cell HY11.out.blk 3).trans rfl), ((blk_cell HY11.out.blk 4).trans rfl)⟩ (fun hHeld => ?_)
     clear hK K
     refine norm_ (a' := ?_) ?_ ?_
     rotate_left
     ·show Act.put _ (some 29) _ = _
      simp only [Act.put, List.setIfInBounds_toArray, List.set_cons_zero, List.set_cons_succ, i64_w, i32_w]
      rfl
     refine pure_ (i := 6) (N := some 30) (v := ?_) (a' := ?_) #[true, true, true, true, true, true, true, false, false, false, false, false, false, false, false, false, false] rfl rfl (any_of HT_.out (by kernel_rfl)) (fun _ _ _ h => h) (Or.inl ⟨by rfl, ?_⟩) ?_ ?_
     rotate_left
     ·intro w'
      go_simp
      with_reducible rfl
     rotate_left
     ·simp only [Act.put, List.setIfInBounds_toArray, List.set_cons_zero, List.set_cons_succ, i64_w, i32_w]
      rfl
     refine pure_ (i := 7) (N := some 31) (v := ?_) (a' := ?_) #[true, true, true, true, true, true, true, true, false, false, false, false, false, false, false, false, false] rfl rfl (any_of HT_.out (by kernel_rfl)) (fun _ _ _ h => h) (Or.inl ⟨by rfl, ?_⟩) ?_ ?_
     rotate_left
     ·intro w'
      go_simp
      with_reducible rfl
     rotate_left
     ·simp only [Act.put, List.setIfInBounds_toArray, List.set_cons_zero, List.set_cons_succ, i64_w, i32_w]
      rfl
     refine take_ (i := 8) (N := some 32) (v := ?_) (a' := ?_) #[true, true, true, true, true, true, true, true, true, false, false, false, false, false, false, false, false] rfl rfl (take_ofW HT_.out HW_.out (by kernel_rfl)) (fun _ _ _ h => h) (Or.inl ⟨by rfl, ?_⟩) hHeld ?_ ?_
     rotate_left
     ·rintro w' ⟨s0, s1, s2, s3, s4, s5, s6, s7, s8, s9⟩
      go_simp
      with_reducible rfl
     rotate_left
     ·simp only [Act.put, List.setIfInBounds_toArray, List.set_cons_zero, List.set_cons_succ, i64_w, i32_w]
      rfl
     refine take_ (i := 11) (N := some 35) (v := ?_) (a' := ?_) #[true, true, true, true, true, true, true, true, true, false, false, true, false, false, false, false, false] rfl rfl (take_ofW HT_.out HW_.out (by kernel_rfl)) (fun _ _ _ h => h) (Or.inl ⟨by rfl, ?_⟩) hHeld ?_ ?_
     rotate_left
     ·rintro w' ⟨s0, s1, s2, s3, s4, s5, s6, s7, s8, s9⟩
      go_simp
      with_reducible rfl
     rotate_left
     ·simp only [Act.put, List.setIfInBounds_toArray, List.set_cons_zero, List.set_cons_succ, i64_w, i32_w]
      rfl
     refine one_ (i := 9) (N := some 33) #[true, true, true, true, true, true, true, true, true, true, false, true, false, false, false, false, false] rfl rfl (one_of HT_.out (by kernel_rfl)) (by decide) (fun K hK => ?_)
     refine goes_ Try.func21 (by kernel_rfl) rfl #[.agg #[.int .i64 t0, .int .i64 t1, .int .i64 t2, .int .i64 t3, .slice A5 t4.length c5]] (by rfl) rfl rfl (by simp only [List.map_toArray, List.map_cons, List.map_nil]; rfl) ?_
     with_reducible refine (hunk_Edits.calls k t0 t1 t2 t3 _ A5 c5 t4 e1 _ (Kd.V_mk HO5.out.1 (Kd.C_F Kd.heap_string HO11.out)) HE1.out).mono ?_
     rintro e w12 ⟨v12, rfl, ho, hb⟩
     refine ⟨_, rfl, ?_⟩
     obtain ⟨A12, c12, e12⟩ := Kd.S_slice ho
     subst e12
     have HX12 := Aside0.mk (HX11.out.below hb)
     have HY12 := Aside0.mk (HY11.out.below hb)
     have HO12 := Aside0.mk (Kd.C_below HO11.out hb)
     clear ho hb
     refine hK.out _ _ ⟨((blk_cell HX12.out.blk 0).trans rfl), ((blk_cell HX12.out.blk 1).trans rfl), ((blk_cell HX12.out.blk 2).trans rfl), ((blk_cell HX12.out.blk 3).trans rfl), ((blk_cell HX12.out.blk 4).trans rfl), ((blk_cell HY12.out.blk 0).trans rfl), ((blk_cell HY12.out.blk 1).trans rfl), ((blk_cell HY12.out.blk 2).trans rfl), ((blk_cell HY12.out.blk 3).trans rfl), ((blk_cell HY12.out.blk 4).trans rfl)⟩ (fun hHeld => ?_)
     clear hK K
     refine norm_ (a' := ?_) ?_ ?_
     rotate_left
     ·show Act.put _ (some 33) _ = _
      simp only [Act.put, List.setIfInBounds_toArray, List.set_cons_zero, List.set_cons_succ, i64_w, i32_w]
      rfl
     refine pure_ (i := 10) (N := some 34) (v := ?_) (a' := ?_) #[true, true, true, true, true, true, true, true, true, true, true, true, false, false, false, false, false] rfl rfl (any_of HT_.out (by kernel_rfl)) (fun _ _ _ h => h) (Or.inl ⟨by rfl, ?_⟩) ?_ ?_
     rotate_left
     ·intro w'
      go_simp
      with_reducible rfl
     rotate_left
     ·simp only [Act.put, List.setIfInBounds_toArray, List.set_cons_zero, List.set_cons_succ, i64_w, i32_w]
      rfl
     refine one_ (i := 12) (N := some 36) #[true, true, true, true, true, true, true, true, true, true, true, true, true, false, false, false, false] rfl rfl (one_of HT_.out (by kernel_rfl)) (by decide) (fun K hK => ?_)
     refine goes_ Try.func21 (by kernel_rfl) rfl #[.agg #[.int .i64 a0, .int .i64 a1, .int .i64 a2, .int .i64 a3, .slice A l.length c]] (by rfl) rfl rfl (by simp only [List.map_toArray, List.map_cons, List.map_nil]; rfl) ?_
     with_reducible refine (hunk_Edits.calls k a0 a1 a2 a3 _ A c l e2 _ (Kd.V_mk HC.out (Kd.C_F Kd.heap_string (Kd.C_below HR.out HX12.out.bel))) HE2.out).mono ?_
     rintro e w13 ⟨v13, rfl, ho, hb⟩
     refine ⟨_, rfl, ?_⟩
     obtain ⟨A13, c13, e13⟩ := Kd.S_slice ho
     subst e13
     have HX13 := Aside0.mk (HX12.out.below hb)
     have HY13 := Aside0.mk (HY12.out.below hb)
     have HO13 := Aside0.mk (Kd.C_below HO12.out hb)
     clear ho hb
     refine hK.out _ _ ⟨((blk_cell HX13.out.blk 0).trans rfl), ((blk_cell HX13.out.blk 1).trans rfl), ((blk_cell HX13.out.blk 2).trans rfl), ((blk_cell HX13.out.blk 3).trans rfl), ((blk_cell HX13.out.blk 4).trans rfl), ((blk_cell HY13.out.blk 0).trans rfl), ((blk_cell HY13.out.blk 1).trans rfl), ((blk_cell HY13.out.blk 2).trans rfl), ((blk_cell HY13.out.blk 3).trans rfl), ((blk_cell HY13.out.blk 4).trans rfl)⟩ (fun hHeld => ?_)
     clear hK K
     refine norm_ (a' := ?_) ?_ ?_
     rotate_left
     ·show Act.put _ (some 36) _ = _
      simp only [Act.put, List.setIfInBounds_toArray, List.set_cons_zero, List.set_cons_succ, i64_w, i32_w]
      rfl
     refine pure_ (i := 13) (N := some 37) (v := ?_) (a' := ?_) #[true, true, true, true, true, true, true, true, true, true, true, true, true, true, false, false, false] rfl rfl (any_of HT_.out (by kernel_rfl)) (fun _ _ _ h => h) (Or.inl ⟨by rfl, ?_⟩) ?_ ?_
     rotate_left
     ·intro w'
      go_simp
      with_reducible rfl
     rotate_left
     ·simp only [Act.put, List.setIfInBounds_toArray, List.set_cons_zero, List.set_cons_succ, i64_w, i32_w]
      rfl
     refine pure_ (i := 14) (N := some 38) (v := ?_) (a' := ?_) #[true, true, true, true, true, true, true, true, true, true, true, true, true, true, true, false, false] rfl rfl (any_of HT_.out (by kernel_rfl)) (fun _ _ _ h => h) (Or.inl ⟨by rfl, ?_⟩) ?_ ?_
     rotate_left
     ·intro w'
      go_simp
      with_reducible rfl
     rotate_left
     ·simp only [Act.put, List.setIfInBounds_toArray, List.set_cons_zero, List.set_cons_succ, i64_w, i32_w]
      rfl
     refine pure_ (i := 15) (N := some 39) (v := ?_) (a' := ?_) #[true, true, true, true, true, true, true, true, true, true, true, true, true, true, true, true, false] rfl rfl (any_of HT_.out (by kernel_rfl)) (fun _ _ _ h => h) (Or.inl ⟨by rfl, ?_⟩) ?_ ?_
     rotate_left
     ·intro w'
      go_simp
      with_reducible rfl
     rotate_left
     ·simp only [Act.put, List.setIfInBounds_toArray, List.set_cons_zero, List.set_cons_succ, i64_w, i32_w]
      rfl
     refine pure_ (i := 16) (N := some 2) (v := ?_) (a' := ?_) #[true, true, true, true, true, true, true, true, true, true, true, true, true, true, true, true, true] rfl rfl (any_of HT_.out (by kernel_rfl)) (fun _ _ _ h => h) (Or.inl ⟨by rfl, ?_⟩) ?_ ?_
     rotate_left
     ·intro w'
      go_simp
      with_reducible rfl
     rotate_left
     ·simp only [Act.put, List.setIfInBounds_toArray, List.set_cons_zero, List.set_cons_succ, i64_w, i32_w]
      rfl
     refine done_ (done_of HT_.out (by kernel_rfl)) ?_

     go_wp2
     go_ret
     exact ⟨rfl, HX13.out.bel⟩
end Go.Proofs.Ytlabiajcohmjhaa.Pr
-- shrunk
