/-
Several plain texts in one.
-/
import Derived.Deep.RegionHeld3
import Derived.Lib.SlicesS
import Derived.IntWalk
import Derived.Test.YtoaijganmfijmaaK3
import Derived.Test.YtoaijganmfijmaaK2
import Derived.Deep.QuietTactic
import Derived.BigQuiet
import Derived.Test.YtoaijganmfijmaaK0
/-
apply's all and Apply: hunks done to lines, and what is told if they can't be.
-/
namespace Go.Proofs.Ytoaijganmfijmaa.Pr
open Go.RowKit Go.Proofs.YtoaijganmfijmaaW.PrintWords Go.Proofs.YtoaijganmfijmaaW.PrintLast Go.Proofs.YtoaijganmfijmaaW.PrintMore
set_option linter.unusedVariables false
set_option linter.unusedSimpArgs false
theorem ABox.nil {w : World} {b : Nat} {v : Value} {done e : Int} {out : List ByteArray} {wr : World} (h : ABox w b v done e out wr) : ABox w b (.slice none 0 0) done e [] (wr.setCell ⟨b, 0, none⟩ (.slice none 0 0)) :=
 ⟨blk_put h.box 0 _ rfl, Kd.R_nil _ _ _ _ _, h.new_, (h.put 0 _).2⟩
theorem at_hkA {w : World} {A : Option Addr} {xs : List Hk} (h : Kd.C k41 w A xs.length xs) (i : Nat) (hi : i < xs.length) :
  ∃ ad A4 c4, A = some ad ∧ w.cell? (ad.add (i * 5)) = some (.int .i64 (xs[i]).f0) ∧ w.cell? ⟨(ad.add (i * 5)).block, (ad.add (i * 5)).off + 1, none⟩ = some (.int .i64 (xs[i]).f1) ∧
   w.cell? ⟨(ad.add (i * 5)).block, (ad.add (i * 5)).off + 2, none⟩ = some (.int .i64 (xs[i]).f2) ∧ w.cell? ⟨(ad.add (i * 5)).block, (ad.add (i * 5)).off + 3, none⟩ = some (.int .i64 (xs[i]).f3) ∧
   w.cell? ⟨(ad.add (i * 5)).block, (ad.add (i * 5)).off + 4, none⟩ = some (.slice A4 (xs[i]).f4.length c4) ∧ (xs[i]).f4.length ≤ c4 ∧ Kd.C Kd.string w A4 (xs[i]).f4.length (xs[i]).f4 := by
 have h2 := at_T41 h (i : Int) (by omega) (by omega)
 rw [rdH_at hi] at h2
 exact h2
theorem cutEndA (A : Option Addr) (c : Nat) (xs : List ByteArray) (lo : Nat) (h1 : lo ≤ xs.length) (hc : xs.length ≤ c) :
  ∃ A' : Option Addr, (∀ W : World, (Instr.slice 22 (.slice A xs.length c) (some (.int .i64 (lo : Int))) none none).run Try.prog W = .ok (.slice A' (xs.drop lo).length (c - lo)) W) ∧
   (∀ w : World, Kd.C Kd.string w A xs.length xs → Kd.C Kd.string w A' (xs.drop lo).length (xs.drop lo)) ∧ (xs.drop lo).length ≤ c - lo := by
 obtain ⟨i0, hi0, hz⟩ := Option.map_eq_some_iff.1 ginfoStrA
 simp only [Prod.mk.injEq] at hz
 refine ⟨_, fun W => ?_, fun w h => Kd.C_drop (c := c) h h1 hc, by rw [List.length_drop]; omega⟩
 have h := cut_from (P := Try.prog) 22 9 .i64 Try.underlying22 hi0 1 hz.2.1 A xs.length c (lo : Int) (Int.natCast_nonneg _) (by omega) W
 rw [Int.toNat_natCast] at h
 rw [h, List.length_drop]
 rfl
def gall_7.T7 : Bool × List (List Nat × List Nat) := (true, [([], []), ([], []), ([1], [1]), ([2], [2]), ([3], [3]), ([], []), ([], []), ([6], [6]), ([7], [7]), ([8], [8]), ([5, 9], [5, 9]), ([4, 10], [4, 10]), ([0, 0, 1, 2, 3, 4, 5, 6, 7, 8, 9, 10, 11], [0]), ([12, 0, 1, 2, 3, 4, 5, 6, 7, 8, 9, 10, 11], [12]), ([13, 11, 11, 0, 1, 2, 3, 4, 5, 6, 7, 8, 9, 10, 11], [11, 13])])
def gall_7.B7 : List Nat := [0, 0, 2, 6, 14, 0, 0, 64, 192, 448, 992, 2046, 4095, 8191, 16383]
theorem gall_7.tab7 : rtab .any (opsOf Try.f23 7) = gall_7.T7 := by kernel_rfl
theorem gall_7.bits7 : waitsOk gall_7.T7.2 gall_7.B7 = true := by kernel_rfl
set_option maxRecDepth 100000 in
set_option maxHeartbeats 40000000 in
theorem all_calls (w : World) (b : Nat) (A0 : Option Addr) (c0 : Nat) (a : List ByteArray) (A1 : Option Addr) (c1 : Nat) (l : List Hk) (W : World)
  (hW : ABox w b (.slice none 0 0) 0 0 [] W) (hra : Kd.C Kd.string w A0 a.length a) (hca : a.length ≤ c0) (hrl : Kd.C k41 w A1 l.length l) (hcl : l.length ≤ c1) (hs : SmallA a l) :
  Calls Try.prog 23 #[.pointer (some ⟨b, 0, none⟩), .slice A0 a.length c0, .slice A1 l.length c1] W (fun e w' => e = .returned (.tuple #[]) ∧ ∃ v d, ABox w b v d (applyP a l).2 (applyP a l).1 w') := by
 have hu1 := Try.underlying41
 have hu2 := Try.underlying46
 have hmf : ∀ (fn : Fn) (first cap : Array Value) (w : World), (Instr.makeFunc fn first cap).run Try.prog w = .ok (.func fn first cap) w := fun _ _ _ _ => rfl
 obtain ⟨k, hk⟩ := (ARight_ev hs).rounds
 have hla : a.length ≤ 65536 := hs.1
 have hll : l.length ≤ 1024 := hs.2.1
 have HK := Aside0.mk hk
 have HS := Aside0.mk hs
 have HW := Aside0.mk hW
 have HRA := Aside0.mk hra
 have HCA := Aside0.mk hca
 have HRL := Aside0.mk hrl
 have HCL := Aside0.mk hcl
 clear hW hra hca hrl hcl hs hk
 cases hok : rightP 0 0 l with
 | false =>
  have HAP := Aside0.mk (show applyP a l = ([], 3) by rw [applyP, hok]; rfl)
  rw [HAP.out]
  rw [hok] at HK
  go_enter_defers Try.func23, Try.ntmps23
  go_wp2_with (first
   | (go_at_call 15; (with_reducible refine (apply_Right.calls k _ _ l false _ (Kd.C_below HRL.out HW.out.bel) HCL.out HK.out).mono ?_); rintro e w1 ⟨rfl, hb⟩; have HX := Aside0.mk (HW.out.below hb); clear hb)
   | (go_at_call 35; refine (must_no3 b 0 _ ((blk_cell HX.out.box 2).trans rfl) (blk_frozen HX.out.box 2)).mono ?_; rintro e w' ⟨⟨u, pv, rfl⟩, hb⟩; have HY := Aside0.mk ((HX.out.err 3).below hb); clear hb))
  refine leaves_cons (f := 34) (args := #[.pointer (some ⟨b, 0, none⟩)]) (by simp) (by simp [go_sem]) ?_
  refine (catch_panicking b _ u pv [] _ ((blk_cell HY.out.box 0).trans rfl) rfl (blk_frozen HY.out.box 0)).mono ?_
  rintro e u' w'' ⟨rfl, rfl, rfl⟩
  have HZ := HY.out.nil
  simp [Leaves, settle, results, Try.results23, go_sem]
  exact ⟨_, _, HZ⟩
 | true =>
  rw [hok] at HK
  obtain ⟨R, hR⟩ : ∃ R, R = applyP a l := ⟨_, rfl⟩
  have HAP := Aside0.mk (show R = (match allP a 0 [] l with | none => ([], 6) | some (o, d) => (o ++ a.drop d, 0)) by rw [hR, applyP, hok]; rfl)
  rw [← hR]
  have HOK := Aside0.mk hok
  clear hR hok
  go_enter_defers Try.func23, Try.ntmps23
  go_upto_block 0 with (first
   | (go_at_call 15; (with_reducible refine (apply_Right.calls k _ _ l true _ (Kd.C_below HRL.out HW.out.bel) HCL.out HK.out).mono ?_); rintro e w1 ⟨rfl, hb⟩; have HX := Aside0.mk (HW.out.below hb); clear hb)
   | (go_at_call 35; (with_reducible refine (must_yes _ _ _).mono ?_); rintro e w' ⟨rfl, rfl⟩))
  go_wp2_with (fail)
  go_loopg [15] l.length (fun kq v15 wr => ∃ (x d : Nat) (A3 : Option Addr) (c3 : Nat) (o : List ByteArray), v15 = .int .i64 (x : Int) ∧ Aside0 (x ≤ l.length ∧ l.length ≤ kq + x ∧ d ≤ a.length ∧ o.length ≤ x * 131072) ∧ Aside0 (allP a d o (l.drop x) = allP a 0 [] l) ∧ Aside0 (∃ more, rightP (d : Int) more (l.drop x) = true) ∧ Aside0 (ABox w b (.slice A3 o.length c3) (d : Int) 0 o wr))
  case atStart => exact ⟨0, 0, none, 0, [], rfl, ⟨Nat.zero_le _, by omega, Nat.zero_le _, by simp⟩, ⟨rfl⟩, ⟨0, HOK.out⟩, HX⟩
  case round =>
   clear HX HOK
   obtain ⟨x, d, A3, c3, o, rfl, HB, HQ, HR, HX⟩ := hrel
   by_cases hend : x = l.length
   ·as_aux_lemma =>
    have f2 : decide (x < l.length) = false := decide_eq_false (by omega)
    have HR2 := Aside0.mk (show R = (o ++ a.drop d, 0) by rw [HAP.out, ← HQ.out, List.drop_of_length_le (by omega)]; rfl)
    have hol : o.length ≤ 134217728 := by have := HB.out; omega
    have hda : d ≤ a.length := HB.out.2.2.1
    obtain ⟨A2, hs1, hC1, hl1⟩ := cutEndA A0 c0 a d hda HCA.out
    obtain ⟨y, hy⟩ : ∃ y, y = a.drop d := ⟨_, rfl⟩
    have hyl : y.length ≤ 65536 := by rw [hy, List.length_drop]; omega
    rw [← hy] at hs1 hC1 hl1 HR2
    obtain ⟨o1, ho1⟩ : ∃ o1, o1 = o ++ y := ⟨_, rfl⟩
    rw [← ho1] at HR2
    have HO1 := Aside0.mk ho1
    have HC1 := Aside0.mk hC1
    clear hend hy hC1 hl1 ho1
    go_wp2_with (fail)
    refine wp_region_noPanic ?_
    have HX3 := Aside0.mk HX.out.drew
    have hz0 : wr.drew.cell? ⟨b, 0, none⟩ = some (.slice A3 o.length c3) := (blk_cell HX3.out.box 0).trans rfl
    have hz1 : wr.drew.cell? ⟨b, 1, none⟩ = some (.int .i64 (d : Int)) := (blk_cell HX3.out.box 1).trans rfl
    have hz2 := blk_frozen HX3.out.box 0
    refine start_ (n := 15) (S := fun w' => w'.cell? ⟨b, 0, none⟩ = some (.slice A3 o.length c3) ∧ w'.cell? ⟨b, 1, none⟩ = some (.int .i64 (d : Int))) (ds := [14]) #[false, false, false, false, false, false, false, false, false, false, false, false, false, false, false] (by kernel_rfl) rfl rfl ⟨hz0, hz1⟩ (fun hHeld => ?_)
    refine with_tabW gall_7.tab7 gall_7.bits7 (fun HT_ HW_ => ?_)
    generalize wr.drew = W2 at HX3 hz0 hz1 hz2 hHeld ⊢
    refine pure_ (i := 0) (N := some 24) (v := ?_) (a' := ?_) #[true, false, false, false, false, false, false, false, false, false, false, false, false, false, false] rfl rfl (any_of HT_.out (by kernel_rfl)) (fun _ _ _ h => h) (Or.inl ⟨by rfl, ?_⟩) ?_ ?_
    rotate_left
    ·intro w'
     go_simp
     with_reducible rfl
    rotate_left
    ·simp only [Act.put, List.setIfInBounds_toArray, List.set_cons_zero, List.set_cons_succ, i64_w, i32_w]
     rfl
    refine pure_ (i := 1) (N := some 25) (v := ?_) (a' := ?_) #[true, true, false, false, false, false, false, false, false, false, false, false, false, false, false] rfl rfl (any_of HT_.out (by kernel_rfl)) (fun _ _ _ h => h) (Or.inl ⟨by rfl, ?_⟩) ?_ ?_
    rotate_left
    ·intro w'
     go_simp
     with_reducible rfl
    rotate_left
    ·simp only [Act.put, List.setIfInBounds_toArray, List.set_cons_zero, List.set_cons_succ, i64_w, i32_w]
     rfl
    refine pure_ (i := 2) (N := some 26) (v := ?_) (a' := ?_) #[true, true, true, false, false, false, false, false, false, false, false, false, false, false, false] rfl rfl (any_of HT_.out (by kernel_rfl)) (fun _ _ _ h => h) (Or.inl ⟨by rfl, ?_⟩) ?_ ?_
    rotate_left
    ·intro w'
     go_simp
     with_reducible rfl
    rotate_left
    ·simp only [Act.put, List.setIfInBounds_toArray, List.set_cons_zero, List.set_cons_succ, i64_w, i32_w]
     rfl
    refine pure_ (i := 3) (N := some 27) (v := ?_) (a' := ?_) #[true, true, true, true, false, false, false, false, false, false, false, false, false, false, false] rfl rfl (any_of HT_.out (by kernel_rfl)) (fun _ _ _ h => h) (Or.inl ⟨by rfl, ?_⟩) ?_ ?_
    rotate_left
    ·intro w'
     go_simp
     with_reducible rfl
    rotate_left
    ·simp only [Act.put, List.setIfInBounds_toArray, List.set_cons_zero, List.set_cons_succ, i64_w, i32_w]
     rfl
    refine pure_ (i := 5) (N := some 29) (v := ?_) (a' := ?_) #[true, true, true, true, false, true, false, false, false, false, false, false, false, false, false] rfl rfl (any_of HT_.out (by kernel_rfl)) (fun _ _ _ h => h) (Or.inl ⟨by rfl, ?_⟩) ?_ ?_
    rotate_left
    ·intro w'
     go_simp
     with_reducible rfl
    rotate_left
    ·simp only [Act.put, List.setIfInBounds_toArray, List.set_cons_zero, List.set_cons_succ, i64_w, i32_w]
     rfl
    refine pure_ (i := 6) (N := some 30) (v := ?_) (a' := ?_) #[true, true, true, true, false, true, true, false, false, false, false, false, false, false, false] rfl rfl (any_of HT_.out (by kernel_rfl)) (fun _ _ _ h => h) (Or.inl ⟨by rfl, ?_⟩) ?_ ?_
    rotate_left
    ·intro w'
     go_simp
     with_reducible rfl
    rotate_left
    ·simp only [Act.put, List.setIfInBounds_toArray, List.set_cons_zero, List.set_cons_succ, i64_w, i32_w]
     rfl
    refine pure_ (i := 7) (N := some 31) (v := ?_) (a' := ?_) #[true, true, true, true, false, true, true, true, false, false, false, false, false, false, false] rfl rfl (any_of HT_.out (by kernel_rfl)) (fun _ _ _ h => h) (Or.inl ⟨by rfl, ?_⟩) ?_ ?_
    rotate_left
    ·intro w'
     go_simp
     with_reducible rfl
    rotate_left
    ·simp only [Act.put, List.setIfInBounds_toArray, List.set_cons_zero, List.set_cons_succ, i64_w, i32_w]
     rfl
    refine pure_ (i := 8) (N := some 32) (v := ?_) (a' := ?_) #[true, true, true, true, false, true, true, true, true, false, false, false, false, false, false] rfl rfl (any_of HT_.out (by kernel_rfl)) (fun _ _ _ h => h) (Or.inl ⟨by rfl, ?_⟩) ?_ ?_
    rotate_left
    ·intro w'
     go_simp
     with_reducible rfl
    rotate_left
    ·simp only [Act.put, List.setIfInBounds_toArray, List.set_cons_zero, List.set_cons_succ, i64_w, i32_w]
     rfl
    refine take_ (i := 4) (N := some 28) (v := ?_) (a' := ?_) #[true, true, true, true, true, true, true, true, true, false, false, false, false, false, false] rfl rfl (take_ofW HT_.out HW_.out (by kernel_rfl)) (fun _ _ _ h => h) (Or.inl ⟨by rfl, ?_⟩) hHeld ?_ ?_
    rotate_left
    ·rintro w' ⟨s0, s1⟩
     go_simp
     with_reducible rfl
    rotate_left
    ·simp only [Act.put, List.setIfInBounds_toArray, List.set_cons_zero, List.set_cons_succ, i64_w, i32_w]
     rfl
    refine take_ (i := 9) (N := some 33) (v := ?_) (a' := ?_) #[true, true, true, true, true, true, true, true, true, true, false, false, false, false, false] rfl rfl (take_ofW HT_.out HW_.out (by kernel_rfl)) (fun _ _ _ h => h) (Or.inl ⟨by rfl, ?_⟩) hHeld ?_ ?_
    rotate_left
    ·rintro w' ⟨s0, s1⟩
     go_simp
     with_reducible rfl
    rotate_left
    ·simp only [Act.put, List.setIfInBounds_toArray, List.set_cons_zero, List.set_cons_succ, i64_w, i32_w]
     rfl
    refine pure_ (i := 10) (N := some 34) (v := ?_) (a' := ?_) #[true, true, true, true, true, true, true, true, true, true, true, false, false, false, false] rfl rfl (any_of HT_.out (by kernel_rfl)) (fun _ _ _ h => h) (Or.inl ⟨by rfl, ?_⟩) ?_ ?_
    rotate_left
    ·intro w'
     go_simp
     with_reducible rfl
    rotate_left
    ·simp only [Act.put, List.setIfInBounds_toArray, List.set_cons_zero, List.set_cons_succ, i64_w, i32_w]
     rfl
    refine one_ (i := 11) (N := some 35) #[true, true, true, true, true, true, true, true, true, true, true, true, false, false, false] rfl rfl (one_of HT_.out (by kernel_rfl)) (by decide) (fun K hK => ?_)
    refine Kd.R_append_rows_step Kd.string (w0 := w) w.heap.size (by rfl) (.tmp 28) (.tmp 34) 22 9 (.string ⟨#[]⟩) 16 rfl Try.underlying22 ginfoStrA rfl (by decide) (by omega) (.slice A3 o.length c3) o y _ _ _ (fun _ => True) (fun _ => False) rfl rfl HX3.out.row (HC1.out _ (Kd.C_below HRA.out HX3.out.bel)) (fun _ _ h => h) (fun _ h => h.elim) (fun _ _ => trivial) HX3.out.bel HX3.out.bel.size (by omega) ?_
    intro v2 w3 ho hb hg2 hat
    rw [← HO1.out] at ho
    obtain ⟨A5, c5, e5⟩ := Kd.R_slice ho
    subst e5
    obtain ⟨hbx, hab⟩ := HX3.out.step hg2 ho hb
    have hk0 := (blk_cell hbx 0).trans rfl
    have hk1 := (blk_cell hbx 1).trans rfl
    have hkf := blk_frozen hbx 0
    have HX5 := Aside0.mk hab
    clear ho hb hg2 hat hbx hab hz0 hz1
    refine hK.out _ _ ⟨hk0, hk1⟩ (fun hHeld => ?_)
    clear hK K
    refine norm_ (a' := ?_) ?_ ?_
    rotate_left
    ·show Act.put _ (some 35) _ = _
     simp only [Act.put, List.setIfInBounds_toArray, List.set_cons_zero, List.set_cons_succ, i64_w, i32_w]
     rfl
    refine pure_ (i := 12) (N := some 36) (v := ?_) (a' := ?_) #[true, true, true, true, true, true, true, true, true, true, true, true, true, false, false] rfl rfl (any_of HT_.out (by kernel_rfl)) (fun _ _ _ h => h) (Or.inl ⟨by rfl, ?_⟩) ?_ ?_
    rotate_left
    ·intro w'
     go_simp
     with_reducible rfl
    rotate_left
    ·simp only [Act.put, List.setIfInBounds_toArray, List.set_cons_zero, List.set_cons_succ, i64_w, i32_w]
     rfl
    refine pure_ (i := 13) (N := some 37) (v := ?_) (a' := ?_) #[true, true, true, true, true, true, true, true, true, true, true, true, true, true, false] rfl rfl (any_of HT_.out (by kernel_rfl)) (fun _ _ _ h => h) (Or.inl ⟨by rfl, ?_⟩) ?_ ?_
    rotate_left
    ·intro w'
     go_simp
     with_reducible rfl
    rotate_left
    ·simp only [Act.put, List.setIfInBounds_toArray, List.set_cons_zero, List.set_cons_succ, i64_w, i32_w]
     rfl
    refine last_ (i := 14) (N := none) #[true, true, true, true, true, true, true, true, true, true, true, true, true, true, true] rfl rfl (one_of HT_.out (by kernel_rfl)) (by decide) (fun K hK => ?_)
    refine skip_ (w1 := ?_) (by rfl) rfl ?_ ?_
    rotate_left
    ·go_simp
     rfl
    refine hK.out _ _ ?_
    clear hK K
    refine done_ (done_of HT_.out (by kernel_rfl)) ?_

    change NoPanic _ _ _ (w3.setCell ⟨b, 0, none⟩ (.slice A5 o1.length c5))
    generalize w3.setCell ⟨b, 0, none⟩ (.slice A5 o1.length c5) = w4 at HX5 ⊢
    refine leaves_cons (f := 34) (args := #[.pointer (some ⟨b, 0, none⟩)]) (by simp) (by simp [go_sem]) ?_
    refine (catch_idle _ _).mono ?_
    rintro e u' w'' ⟨rfl, rfl, rfl⟩
    simp [Leaves, settle, results, Try.results23, go_sem]
    rw [HR2.out]
    exact ⟨_, _, HX5.out⟩
   ·as_aux_lemma =>
    have hxl : x < l.length := by have := HB.out; omega
    obtain ⟨gk', HG⟩ : ∃ m, Aside0 (gk = m + 1) := ⟨gk - 1, ⟨by have := HB.out; omega⟩⟩
    have f2 : decide (x < l.length) = true := decide_eq_true hxl
    obtain ⟨ad, A4, c4, ea, hw0, hw1, hw2, hw3, hw4, hl4, hi4⟩ := at_hkA HRL.out x hxl
    cases ea
    obtain ⟨h, hh⟩ : ∃ h, h = l[x] := ⟨_, rfl⟩
    rw [← hh] at hw0 hw1 hw2 hw3 hw4 hl4 hi4
    have HSL := Aside0.mk (show l.drop x = h :: l.drop (x + 1) by rw [hh]; exact List.drop_eq_getElem_cons hxl)
    have hsm := HS.out.2.2 h (by rw [hh]; exact List.getElem_mem hxl)
    obtain ⟨more, hrp⟩ := HR.out
    rw [HSL.out, rightP, Bool.and_eq_true, Bool.and_eq_true, Bool.and_eq_true, decide_eq_true_eq] at hrp
    obtain ⟨⟨⟨hr1, hr2⟩, hr3⟩, hr4⟩ := hrp
    have HR1 := Aside0.mk hr1
    have HR4 := Aside0.mk hr4
    have HRS := Aside0.mk (rightL_size hr1)
    replace hw0 := pw_cell_below HX.out.bel hw0
    replace hw1 := pw_cell_below HX.out.bel hw1
    replace hw2 := pw_cell_below HX.out.bel hw2
    replace hw3 := pw_cell_below HX.out.bel hw3
    replace hw4 := pw_cell_below HX.out.bel hw4
    have HC4 := Aside0.mk hl4
    have HI4 := Aside0.mk hi4
    have HSM := Aside0.mk hsm
    have HD := Aside0.mk hr2
    have HXL := Aside0.mk hxl
    have kx : IntKind.i64.wrap ((x : Int) + 1) = (x : Int) + 1 := IntWalk.i64_in _ (by omega)
    clear hh hend hsm hr1 hr2 hr3 hr4 hl4 hi4
    cases h1 : oneP a d h.f0 h.f4 o with
    | none =>
     have H1 := Aside0.mk h1
     have HR2 := Aside0.mk (show R = ([], 6) by rw [HAP.out, ← HQ.out, HSL.out, allP, h1])
     clear h1
     go_wp2_with (go_at_call 36; refine (one_calls w b A0 c0 a h.f0 h.f1 h.f2 h.f3 A4 c4 h.f4 (.slice A3 o.length c3) d o _ ?hW HRA.out HCA.out HI4.out HC4.out HD.out HB.out.2.2.1 HRS.out.1 (by omega) (by have := HSM.out; omega) (by have := HB.out; omega)).mono ?_; (case hW => exact HX.out.alloc _); rintro e w' hE; rw [H1.out] at hE; obtain ⟨⟨u, pv, rfl⟩, v2, d2, o2, hY⟩ := hE; have HY := Aside0.mk hY; clear hY)
     obtain ⟨A6, c6, e6⟩ := Kd.R_slice HY.out.row
     subst e6
     refine leaves_cons (f := 34) (args := #[.pointer (some ⟨b, 0, none⟩)]) (by simp) (by simp [go_sem]) ?_
     refine (catch_panicking b _ u pv [] _ ((blk_cell HY.out.box 0).trans rfl) rfl (blk_frozen HY.out.box 0)).mono ?_
     rintro e u' w'' ⟨rfl, rfl, rfl⟩
     have HZ := HY.out.nil
     simp [Leaves, settle, results, Try.results23, go_sem]
     rw [HR2.out]
     exact ⟨_, _, HZ⟩
    | some q =>
     obtain ⟨o2, d2⟩ := q
     have hp := oneP_some HR1.out h1
     have H1 := Aside0.mk h1
     have HP := Aside0.mk hp
     have HQ2 := Aside0.mk (show allP a d2 o2 (l.drop (x + 1)) = allP a 0 [] l by rw [← HQ.out, HSL.out, allP, h1])
     clear h1 hp
     go_wp2_with (go_at_call 36; refine (one_calls w b A0 c0 a h.f0 h.f1 h.f2 h.f3 A4 c4 h.f4 (.slice A3 o.length c3) d o _ ?hW HRA.out HCA.out HI4.out HC4.out HD.out HB.out.2.2.1 HRS.out.1 (by omega) (by have := HSM.out; omega) (by have := HB.out; omega)).mono ?_; (case hW => exact HX.out.alloc _); rintro e w' hE; rw [H1.out] at hE; obtain ⟨rfl, v2, hY⟩ := hE; have HY := Aside0.mk hY; clear hY)
     go_roundg gk'
     case measure => have := HG.out; omega
     case rel =>
      clear kx
      obtain ⟨A6, c6, e6⟩ := Kd.R_slice HY.out.row
      subst e6
      have := HP.out
      exact ⟨x + 1, d2, A6, c6, o2, by go_num, ⟨by have := HB.out; have := HG.out; have := HXL.out; have := HSM.out; omega⟩, HQ2, ⟨_, by rw [this.1]; exact HR4.out⟩, HY⟩
end Go.Proofs.Ytoaijganmfijmaa.Pr
-- shrunk
/-
package apply's Apply: what hunks make of lines.
-/
namespace Go.Proofs.Ytoaijganmfijmaa.Pr
open Go.RowKit Go.Proofs.YtoaijganmfijmaaW.PrintWords Go.Proofs.YtoaijganmfijmaaW.PrintLast Go.Proofs.YtoaijganmfijmaaW.PrintMore
set_option linter.unusedVariables false
set_option linter.unusedSimpArgs false
def apply_Apply.f (l0 : List ByteArray) (l1 : List Hk) : Option (List ByteArray × Int) := if SmallA l0 l1 then some (applyP l0 l1) else none
set_option maxRecDepth 100000 in
set_option maxHeartbeats 4000000 in
theorem apply_Apply.calls (A0 : Option Addr) (c0 : Nat) (l0 : List ByteArray) (A1 : Option Addr) (c1 : Nat) (l1 : List Hk) (r1 : List ByteArray) (r2 : Int) (w : World) (hr0 : Kd.C Kd.string w A0 l0.length l0) (hc0 : l0.length ≤ c0) (hr1 : Kd.C k41 w A1 l1.length l1) (hc1 : l1.length ≤ c1) (h : apply_Apply.f l0 l1 = some (r1, r2)) :
  Calls Try.prog 12 #[.slice A0 l0.length c0, .slice A1 l1.length c1] w fun e w' => ∃ v0_ : Value, e = .returned (.tuple #[v0_, .int .i64 r2]) ∧ Kd.R Kd.string 9 w' w.heap.size (fun _ => True) v0_ r1 ∧ Below w.heap.size w w' := by
 have hu1 := Try.underlying41
 have hu2 := Try.underlying46
 unfold apply_Apply.f at h
 by_cases hs : SmallA l0 l1
 ·rw [if_pos hs] at h
  have hap := Option.some.inj h
  have HR0 := Aside0.mk hr0
  have HC0 := Aside0.mk hc0
  have HR1 := Aside0.mk hr1
  have HC1 := Aside0.mk hc1
  have HS := Aside0.mk hs
  have HX := Aside0.mk (show ABox w w.heap.size (.slice none 0 0) 0 0 [] (w.alloc (.cells #[.slice none 0 0, .int .i64 0, .int .i64 0] 46 (0, 0))) from ⟨blk_new w _, Kd.R_nil _ _ _ _ _, Nat.le_refl _, below_alloc (Below.refl _ _) _⟩)
  obtain ⟨b, hb⟩ : ∃ b, b = w.heap.size := ⟨_, rfl⟩
  have HBN := Aside0.mk hb
  have H := Aside0.mk hap
  clear h hap hr0 hc0 hr1 hc1 hs
  go_enter Try.func12, Try.ntmps12
  go_upto_region 3 with (go_at_call 23; refine (all_calls w w.heap.size A0 c0 l0 A1 c1 l1 _ HX.out HR0.out HC0.out HR1.out HC1.out HS.out).mono ?_; rintro e w' ⟨rfl, v, d, hY⟩; rw [H.out] at hY; have HY := Aside0.mk hY; clear hY)
  have hz0 := (blk_cell HY.out.box 0).trans rfl
  have hz2 := (blk_cell HY.out.box 2).trans rfl
  repeat (go_quiet (fail); try go_wp2)
  go_ret2
  refine ⟨_, rfl, ?_⟩
  have HZ := fun n => HY.out.below (w1 := w'.drewN n) (pw_below_drewN (Below.refl _ _) n)
  exact ⟨(HZ _).row, (HZ _).bel⟩
 ·rw [if_neg hs] at h; cases h
end Go.Proofs.Ytoaijganmfijmaa.Pr
-- shrunk
/-
A list of edits of the call's own, of which the last one is changed: what is known of memory then.
-/
namespace Go.Proofs.Ytoaijganmfijmaa.Pr
open Go.RowKit Go.Proofs.YtoaijganmfijmaaW.PrintWords Go.Proofs.YtoaijganmfijmaaW.PrintLast Go.Proofs.YtoaijganmfijmaaW.PrintMore
set_option linter.unusedVariables false
set_option linter.unusedSimpArgs false
theorem edLast_eq (out : List Ed) (j : Int) (hj : j.toNat = out.length - 1) : out.getD j.toNat z53 = edLast out := by rw [hj]; rfl
theorem own_del {W : World} {base g cap : Nat} {out : List Ed} {j : Int} (hS : Kd.S k53 53 W base (fun _ => True) (.slice (some ⟨g, 0, none⟩) out.length cap) out) (hne : out ≠ []) (h0 : 0 ≤ j) (hj : j.toNat = out.length - 1) :
  W.cell? ⟨g, j.toNat * 3 + 1, none⟩ = some (.int .i64 (edLast out).f1) ∧ W.frozen? ⟨g, j.toNat * 3 + 1, none⟩ = false ∧
   Kd.S k53 53 (W.setCell ⟨g, j.toNat * 3 + 1, none⟩ (.int .i64 ((edLast out).f1 + 1))) base (fun _ => True) (.slice (some ⟨g, 0, none⟩) out.length cap) (addDel out) ∧
   W.grownBy (W.setCell ⟨g, j.toNat * 3 + 1, none⟩ (.int .i64 ((edLast out).f1 + 1))) (some g) := by
 have hl : 0 < out.length := List.length_pos_iff.2 hne
 have h1 : j < (out.length : Int) := by omega
 have hS' : Kd.S k53 53 W base (fun k => True ∧ ¬ False) (.slice (some ⟨g, 0, none⟩) out.length cap) out := Kd.S_mono hS (fun _ _ => ⟨trivial, id⟩)
 obtain ⟨oki, c, hcl, hM, hcc, hfr, hoki, hH⟩ := Kd.S_elem hS' z53 j h0 h1
 rw [edLast_eq out j hj] at hM
 obtain ⟨vi, rfl, hvi⟩ := k53_openM hM
 have hc1 := hcc 1 _ rfl
 obtain ⟨h2, h3⟩ := Kd.S_seg (okg := fun _ => False) hH h0 h1 (seg := [.int .i64 ((edLast out).f1 + 1)]) (j := 1) (show 1 + 1 ≤ 3 by decide) (x' := ⟨(edLast out).f0, (edLast out).f1 + 1, (edLast out).f2⟩)
  (k53_mkM W base oki ⟨(edLast out).f0, (edLast out).f1 + 1, (edLast out).f2⟩ hvi) (fun k hk => .inl hk) (fun k hk => hk.elim)
 exact ⟨hc1, hfr 1, by unfold addDel; rw [← hj]; exact Kd.S_mono h2 (fun _ _ => trivial), h3⟩
theorem own_ins {W : World} {base g cap : Nat} {out : List Ed} {j : Int} (s : ByteArray) (hS : Kd.S k53 53 W base (fun _ => True) (.slice (some ⟨g, 0, none⟩) out.length cap) out) (hne : out ≠ []) (h0 : 0 ≤ j) (hj : j.toNat = out.length - 1) :
  ∃ (vi : Value) (Ai : Option Addr) (ci : Nat) (oki : Nat → Prop), vi = .slice Ai (edLast out).f2.length ci ∧ W.cell? ⟨g, j.toNat * 3 + 2, none⟩ = some vi ∧ Kd.R Kd.string 9 W base oki vi (edLast out).f2 ∧ (∀ k, W.heap.size ≤ k → oki k) ∧ (∀ k, vi.ownBlock = some k → k ≠ g) ∧
   ∀ (W2 w1 : World) (v1 : Value), Below W.heap.size W W2 → W2.grownBy w1 vi.ownBlock → Kd.R Kd.string 9 w1 base oki v1 ((edLast out).f2 ++ [s]) →
    w1.cell? ⟨g, j.toNat * 3 + 2, none⟩ = some vi ∧ w1.frozen? ⟨g, j.toNat * 3 + 2, none⟩ = false ∧
    Kd.S k53 53 (w1.setCell ⟨g, j.toNat * 3 + 2, none⟩ v1) base (fun _ => True) (.slice (some ⟨g, 0, none⟩) out.length cap) (addIns s out) ∧ w1.grownBy (w1.setCell ⟨g, j.toNat * 3 + 2, none⟩ v1) (some g) ∧ (∃ cells, w1.heap[g]? = some (.cells cells 53 (0, 0))) := by
 have hl : 0 < out.length := List.length_pos_iff.2 hne
 have h1 : j < (out.length : Int) := by omega
 obtain ⟨oki, c, hcl, hM, hcc, hfr, hoki, hH⟩ := Kd.S_elem hS z53 j h0 h1
 rw [edLast_eq out j hj] at hM
 obtain ⟨vi, rfl, hvi⟩ := k53_openM hM
 have hc2 := hcc 2 _ rfl
 obtain ⟨g', cap', e', _, hlt, cells0, hg0⟩ := Kd.S_form hS hl
 have hgg : g' = g := by injection e' with e' _ _; injection e' with e'; injection e' with e'; exact e'.symm
 subst hgg
 have hH2 := Kd.H_widen hH
 have hvi2 : Kd.R Kd.string 9 W base (fun k => oki k ∨ True ∧ W.heap.size ≤ k) vi (edLast out).f2 := Kd.R_mono hvi (fun k hk => .inl hk)
 obtain ⟨Ai, ci, evi⟩ := Kd.R_slice hvi
 refine ⟨vi, Ai, ci, fun k => oki k ∨ True ∧ W.heap.size ≤ k, evi, hc2, hvi2, fun k hk => .inr ⟨trivial, hk⟩, fun k hk => (hoki k (hvi.1 k hk)).2, fun W2 w1 v1 hb hg hR => ?_⟩
 have hne2 : ∀ k, vi.ownBlock = some k → k ≠ g' := fun k hk => (hoki k (hvi.1 k hk)).2
 have hgb : ¬ vi.ownBlock = some g' := fun h => hne2 _ h rfl
 have hlt2 : g' < W2.heap.size := Nat.lt_of_lt_of_le hlt hb.size
 have hcell : w1.heap[g']? = W.heap[g']? := (hg.block g' hlt2 (fun e => hgb e.symm)).trans (hb.block g' hlt)
 have hH3 := Kd.H_grown (Kd.H_below hH2 hb) hg (fun k hk => .inl (hvi.1 k hk))
 obtain ⟨h4, h5⟩ := Kd.H_seg hH3 h0 h1 (seg := [v1]) (j := 2) (show 2 + 1 ≤ 3 by decide) (by intro q hq; simp at hq; subst hq; exact (Kd.R_val hR).2)
 have hokne : ∀ k, (oki k ∨ True ∧ W.heap.size ≤ k) → k ≠ g' := by
  rintro k (hk | hk)
  ·exact (hoki k hk).2
  ·omega
 refine ⟨by rw [← hc2]; exact World.cell?_of_block hcell, by rw [← hfr 2]; exact World.frozen?_of_block hcell, ?_, h5, ⟨cells0, hcell.trans hg0⟩⟩
 unfold addIns
 rw [← hj]
 refine Kd.H_back h4 (okp := fun k => oki k ∨ True ∧ W.heap.size ≤ k) ?_ (fun _ hk => hk)
 exact k53_mkM _ base _ ⟨(edLast out).f0, (edLast out).f1, (edLast out).f2 ++ [s]⟩ (Kd.R_far hR (p := ⟨g', j.toNat * 3 + 2, none⟩) hokne v1)
end Go.Proofs.Ytoaijganmfijmaa.Pr
-- shrunk
