/-
Several plain texts in one.
-/
import Derived.Test.YtamojbfmphainaaDoorK0
import Derived.Test.YtamojbfmphainaaDoorK4
import Derived.Test.YtamojbfmphainaaDoorK1
import Derived.Outline
import Derived.Deep.Strs
import Derived.SizedLaws
import Derived.ChangeOld
import Derived.Carry
import Derived.Test.YtamojbfmphainaaDoorWWords
import Derived.Test.YtamojbfmphainaaDoorWMore
import Derived.Test.YtamojbfmphainaaDoorWLast
import Derived.KernelRfl
-- written by a program of this session's (a turned copy of the kit's printer); Lean checks it
namespace Go.Proofs.YtamojbfmphainaaDoor.Pr
open Go.RowKit Go.Proofs.YtamojbfmphainaaDoorW.PrintWords Go.Proofs.YtamojbfmphainaaDoorW.PrintLast Go.Proofs.YtamojbfmphainaaDoorW.PrintMore
attribute [local go_sem] max2_int min2_int max_two min_two max_three min_three max_four min_four   -- for this text's walks alone
set_option linter.unusedVariables false
set_option linter.unusedSimpArgs false

def grapevineref05_Same.l0 : Nat → List (S41) → List (S41) → Int → Option (Bool)
 | 0, _, _, _ => none
 | k + 1, x0, x1, x5 => if x5 < (x0.length : Int) then (if 0 ≤ x5 then (if x5 < (x1.length : Int) then ((grapevineref05_One.f k ((rd_T41 x0 x5).f0) ((rd_T41 x0 x5).f1) ((rd_T41 x0 x5).f2) ((rd_T41 x0 x5).f3) ((rd_T41 x0 x5).f4) ((rd_T41 x1 x5).f0) ((rd_T41 x1 x5).f1) ((rd_T41 x1 x5).f2) ((rd_T41 x1 x5).f3) ((rd_T41 x1 x5).f4)).bind fun t148 => (if t148 = true then (grapevineref05_Same.l0 k x0 x1 (wrap64 (x5 + 1))) else (some false))) else (none)) else (none)) else (some true)
def grapevineref05_Same.f (k : Nat) (l0 : List (S41)) (l1 : List (S41)) : Option (Bool) := if (l0.length : Int) = (l1.length : Int) then (grapevineref05_Same.l0 k l0 l1 0) else (some false)
theorem grapevineref05_Same.mono_l : ∀ k, (∀ y0 y1 y2, LeO (grapevineref05_Same.l0 k y0 y1 y2) (grapevineref05_Same.l0 (k + 1) y0 y1 y2))
 | 0 => fun _ _ _ r h => by simp [grapevineref05_Same.l0] at h
 | k + 1 => by
  have ih0 := grapevineref05_Same.mono_l k
  ·intro y0 y1 y2
   unfold grapevineref05_Same.l0
   repeat' first
   | (with_reducible exact ih0 _ _ _)
   | (with_reducible exact grapevineref05_One.mono _ _ _ _ _ _ _ _ _ _ _)
   | (with_reducible exact LeO.refl _)
   | (with_reducible exact LeO.none _)
   | (with_reducible refine LeO.ite ?_ ?_)
   | (with_reducible refine LeO.bind ?_ (fun _ => ?_))
   | exact ih0 _ _ _
   | exact grapevineref05_One.mono _ _ _ _ _ _ _ _ _ _ _
   | exact LeO.none _
   | refine LeO.ite ?_ ?_
   | refine LeO.bind ?_ (fun _ => ?_)
theorem grapevineref05_Same.mono : ∀ a0 a1 k, LeO (grapevineref05_Same.f k a0 a1) (grapevineref05_Same.f (k + 1) a0 a1) := by
 intro a0 a1 k
 have ih0 := grapevineref05_Same.mono_l k
 unfold grapevineref05_Same.f
 repeat' first
   | (with_reducible exact ih0 _ _ _)
   | (with_reducible exact grapevineref05_One.mono _ _ _ _ _ _ _ _ _ _ _)
   | (with_reducible exact LeO.refl _)
   | (with_reducible exact LeO.none _)
   | (with_reducible refine LeO.ite ?_ ?_)
   | (with_reducible refine LeO.bind ?_ (fun _ => ?_))
   | exact ih0 _ _ _
   | exact grapevineref05_One.mono _ _ _ _ _ _ _ _ _ _ _
   | exact LeO.none _
   | refine LeO.ite ?_ ?_
   | refine LeO.bind ?_ (fun _ => ?_)
def grapevineref05_Same.T6 : Bool × List (List Nat × List Nat) := (true, [([], []), ([], []), ([0, 1], [0, 1]), ([2], [2]), ([], []), ([], []), ([4, 5], [4, 5]), ([6], [6]), ([3, 7], [3, 7]), ([8, 8, 0, 1, 2, 3, 4, 5, 6, 7, 8], [8])])
def grapevineref05_Same.B6 : List Nat := [0, 0, 3, 7, 0, 0, 48, 112, 255, 511]
theorem grapevineref05_Same.tab6 : rtab .any (opsOf Tryd.f14 6) = grapevineref05_Same.T6 := by kernel_rfl
theorem grapevineref05_Same.bits6 : waitsOk grapevineref05_Same.T6.2 grapevineref05_Same.B6 = true := by kernel_rfl
set_option maxHeartbeats 8000000 in
set_option maxRecDepth 100000 in
theorem grapevineref05_Same.calls (k : Nat) (A0 : Option Addr) (c0 : Nat) (l0 : List (S41)) (A1 : Option Addr) (c1 : Nat) (l1 : List (S41)) (r : Bool) (w : World) (hr0 : Kd.C k41 w A0 l0.length l0) (hc0 : l0.length ≤ c0) (hr1 : Kd.C k41 w A1 l1.length l1) (hc1 : l1.length ≤ c1) (h : grapevineref05_Same.f k l0 l1 = some r) :
  Calls Tryd.prog 14 #[.slice A0 l0.length c0, .slice A1 l1.length c1] w fun e w' => e = .returned (.bool r) ∧ Below w.heap.size w w' := by
 have hu41 := Tryd.underlying41
 have HR0 := Aside0.mk hr0
 have HC0 := Aside0.mk hc0
 clear hr0 hc0
 have HR1 := Aside0.mk hr1
 have HC1 := Aside0.mk hc1
 clear hr1 hc1
 have HB := Aside0.mk (Below.refl w.heap.size w)
 have H : (if (l0.length : Int) = (l1.length : Int) then (grapevineref05_Same.l0 k l0 l1 0) else (some false)) = some r := h
 clear h
 by_cases c3 : (l0.length : Int) = (l1.length : Int)
 ·rw [if_pos c3] at H
  have c3b0 : ((l0.length : Int) == (l1.length : Int)) = true := beq_iff_eq.mpr c3
  have c3b1 : ((l0.length : Int) != (l1.length : Int)) = false := bne_eq_false_iff_eq.mpr c3
  have c3b2 : (l0.length == l1.length) = true := by first | simpa using c3 | (simp at c3 ⊢; omega)
  clear c3
  have H' := Aside0.mk H
  clear H
  go_enter Tryd.func14, Tryd.ntmps14
  go_wp2
  go_loopg [5] k (fun kq v5 w' => ∃ (x5_1 : Int), v5 = .int .i64 x5_1 ∧ Aside0 (grapevineref05_Same.l0 kq l0 l1 x5_1 = some r) ∧ Aside0 (kq ≤ k) ∧ Aside0 (Below w.heap.size w w'))
  case atStart => exact ⟨(0), (by first | rfl | (simp; done) | (simp [*]; done)), H', ⟨Nat.le_refl _⟩, ⟨by repeat (first | (with_reducible first | exact HB.out | apply below_alloc | apply pw_below_drewN | apply below_drew1) | exact HB.out)⟩⟩
  case round =>
   clear H'
   try clear c1
   try clear p2
   try clear c3
   try clear c3b0
   try clear c3b1
   try clear c3b2
   obtain ⟨x5_1, rfl, HA, HK1, HB⟩ := hrel
   cases gk with
   | zero => exact absurd HA.out (by simp [grapevineref05_Same.l0])
   | succ k1 =>
    have H := HA.out
    clear HA
    simp only [grapevineref05_Same.l0] at H
    by_cases c4 : x5_1 < (l0.length : Int)
    ·rw [if_pos c4] at H
     have c4b0 : decide (x5_1 < (l0.length : Int)) = true := decide_eq_true c4
     clear c4
     by_cases c5 : 0 ≤ x5_1
     ·rw [if_pos c5] at H
      have c5b0 : decide (0 ≤ x5_1) = true := decide_eq_true c5
      clear c5
      by_cases c6 : x5_1 < (l1.length : Int)
      ·rw [if_pos c6] at H
       have c6b0 : decide (x5_1 < (l1.length : Int)) = true := decide_eq_true c6
       clear c6
       replace H := Option.bind_eq_some_iff.mp H
       obtain ⟨t148, A70, H⟩ := H
       replace H : (if t148 = true then (grapevineref05_Same.l0 k1 l0 l1 (wrap64 (x5_1 + 1))) else (some false)) = some r := H
       have A7 := Aside0.mk A70
       clear A70
       by_cases c8 : t148 = true
       ·subst c8
        have H1 : (grapevineref05_Same.l0 k1 l0 l1 (wrap64 (x5_1 + 1))) = some r := by rw [if_pos rfl] at H; exact H
        clear H
        have H := H1
        clear H1
        have H' := Aside0.mk H
        clear H
        try go_wp2
        have n0_ := Aside0.mk (below_drew1 HB.out)
        clear HB
        have HB := n0_
        clear n0_
        have p146 : 0 ≤ (x5_1 : Int) := of_decide_eq_true (by first | (with_reducible assumption) | assumption)
        have q146 : x5_1 < (l0.length : Int) := of_decide_eq_true (by first | (with_reducible assumption) | assumption)
        obtain ⟨ad146, A146_4, c146_4, e146, hx146_0, hx146_1, hx146_2, hx146_3, hx146_4, hl146_4, hi146_4⟩ := at_T41 HR0.out x5_1 p146 q146
        have hw146_4 := hx146_4
        have hw146_3 := hx146_3
        have hw146_2 := hx146_2
        have hw146_1 := hx146_1
        have hw146_0 := hx146_0
        cases e146
        replace hx146_0 := (HB.out.cell (World.block_lt_of_cell? w _ hx146_0)).trans hx146_0
        replace hx146_1 := (HB.out.cell (World.block_lt_of_cell? w _ hx146_1)).trans hx146_1
        replace hx146_2 := (HB.out.cell (World.block_lt_of_cell? w _ hx146_2)).trans hx146_2
        replace hx146_3 := (HB.out.cell (World.block_lt_of_cell? w _ hx146_3)).trans hx146_3
        replace hx146_4 := (HB.out.cell (World.block_lt_of_cell? w _ hx146_4)).trans hx146_4
        have HR146_4 := Aside0.mk hi146_4
        have HC146_4 := Aside0.mk hl146_4
        clear hi146_4 hl146_4
        replace p146 := eq_true p146
        replace q146 := eq_true q146
        have p147 : 0 ≤ (x5_1 : Int) := of_decide_eq_true (by first | (with_reducible assumption) | assumption)
        have q147 : x5_1 < (l1.length : Int) := of_decide_eq_true (by first | (with_reducible assumption) | assumption)
        obtain ⟨ad147, A147_4, c147_4, e147, hx147_0, hx147_1, hx147_2, hx147_3, hx147_4, hl147_4, hi147_4⟩ := at_T41 HR1.out x5_1 p147 q147
        have hw147_4 := hx147_4
        have hw147_3 := hx147_3
        have hw147_2 := hx147_2
        have hw147_1 := hx147_1
        have hw147_0 := hx147_0
        cases e147
        replace hx147_0 := (HB.out.cell (World.block_lt_of_cell? w _ hx147_0)).trans hx147_0
        replace hx147_1 := (HB.out.cell (World.block_lt_of_cell? w _ hx147_1)).trans hx147_1
        replace hx147_2 := (HB.out.cell (World.block_lt_of_cell? w _ hx147_2)).trans hx147_2
        replace hx147_3 := (HB.out.cell (World.block_lt_of_cell? w _ hx147_3)).trans hx147_3
        replace hx147_4 := (HB.out.cell (World.block_lt_of_cell? w _ hx147_4)).trans hx147_4
        have HR147_4 := Aside0.mk hi147_4
        have HC147_4 := Aside0.mk hl147_4
        clear hi147_4 hl147_4
        replace p147 := eq_true p147
        replace q147 := eq_true q147
        refine start_ (n := 10) (S := fun w' => w'.cell? (ad146.add ((x5_1).toNat * 5)) = some (.int .i64 ((rd_T41 l0 x5_1).f0)) ∧ w'.cell? ⟨(ad146.add ((x5_1).toNat * 5)).block, (ad146.add ((x5_1).toNat * 5)).off + 1, none⟩ = some (.int .i64 ((rd_T41 l0 x5_1).f1)) ∧ w'.cell? ⟨(ad146.add ((x5_1).toNat * 5)).block, (ad146.add ((x5_1).toNat * 5)).off + 2, none⟩ = some (.int .i64 ((rd_T41 l0 x5_1).f2)) ∧ w'.cell? ⟨(ad146.add ((x5_1).toNat * 5)).block, (ad146.add ((x5_1).toNat * 5)).off + 3, none⟩ = some (.int .i64 ((rd_T41 l0 x5_1).f3)) ∧ w'.cell? ⟨(ad146.add ((x5_1).toNat * 5)).block, (ad146.add ((x5_1).toNat * 5)).off + 4, none⟩ = some (.slice A146_4 ((rd_T41 l0 x5_1).f4).length c146_4) ∧ w'.cell? (ad147.add ((x5_1).toNat * 5)) = some (.int .i64 ((rd_T41 l1 x5_1).f0)) ∧ w'.cell? ⟨(ad147.add ((x5_1).toNat * 5)).block, (ad147.add ((x5_1).toNat * 5)).off + 1, none⟩ = some (.int .i64 ((rd_T41 l1 x5_1).f1)) ∧ w'.cell? ⟨(ad147.add ((x5_1).toNat * 5)).block, (ad147.add ((x5_1).toNat * 5)).off + 2, none⟩ = some (.int .i64 ((rd_T41 l1 x5_1).f2)) ∧ w'.cell? ⟨(ad147.add ((x5_1).toNat * 5)).block, (ad147.add ((x5_1).toNat * 5)).off + 3, none⟩ = some (.int .i64 ((rd_T41 l1 x5_1).f3)) ∧ w'.cell? ⟨(ad147.add ((x5_1).toNat * 5)).block, (ad147.add ((x5_1).toNat * 5)).off + 4, none⟩ = some (.slice A147_4 ((rd_T41 l1 x5_1).f4).length c147_4)) (ds := []) #[false, false, false, false, false, false, false, false, false, false] (by kernel_rfl) rfl rfl ⟨((HB.out.cell (World.block_lt_of_cell? w _ hw146_0)).trans hw146_0), ((HB.out.cell (World.block_lt_of_cell? w _ hw146_1)).trans hw146_1), ((HB.out.cell (World.block_lt_of_cell? w _ hw146_2)).trans hw146_2), ((HB.out.cell (World.block_lt_of_cell? w _ hw146_3)).trans hw146_3), ((HB.out.cell (World.block_lt_of_cell? w _ hw146_4)).trans hw146_4), ((HB.out.cell (World.block_lt_of_cell? w _ hw147_0)).trans hw147_0), ((HB.out.cell (World.block_lt_of_cell? w _ hw147_1)).trans hw147_1), ((HB.out.cell (World.block_lt_of_cell? w _ hw147_2)).trans hw147_2), ((HB.out.cell (World.block_lt_of_cell? w _ hw147_3)).trans hw147_3), ((HB.out.cell (World.block_lt_of_cell? w _ hw147_4)).trans hw147_4)⟩ (fun hHeld => ?_); refine with_tabW grapevineref05_Same.tab6 grapevineref05_Same.bits6 (fun HT_ HW_ => ?_)
        generalize wr.drew = w9 at HB HR146_4 HR147_4 hx146_0 hx146_1 hx146_2 hx146_3 hx146_4 hx147_0 hx147_1 hx147_2 hx147_3 hx147_4 hHeld ⊢
        refine pure_ (i := 0) (N := some 18) (v := ?_) (a' := ?_) #[true, false, false, false, false, false, false, false, false, false] rfl rfl (any_of HT_.out (by kernel_rfl)) (fun _ _ _ h => h) (Or.inl ⟨by rfl, ?_⟩) ?_ ?_
        rotate_left
        ·intro w'
         go_simp
         with_reducible rfl
        rotate_left
        ·simp only [Act.put, List.setIfInBounds_toArray, List.set_cons_zero, List.set_cons_succ, i64_w, i32_w]
         rfl
        refine pure_ (i := 1) (N := some 19) (v := ?_) (a' := ?_) #[true, true, false, false, false, false, false, false, false, false] rfl rfl (any_of HT_.out (by kernel_rfl)) (fun _ _ _ h => h) (Or.inl ⟨by rfl, ?_⟩) ?_ ?_
        rotate_left
        ·intro w'
         go_simp
         with_reducible rfl
        rotate_left
        ·simp only [Act.put, List.setIfInBounds_toArray, List.set_cons_zero, List.set_cons_succ, i64_w, i32_w]
         rfl
        refine pure_ (i := 2) (N := some 20) (v := ?_) (a' := ?_) #[true, true, true, false, false, false, false, false, false, false] rfl rfl (any_of HT_.out (by kernel_rfl)) (fun _ _ _ h => h) (Or.inl ⟨by rfl, ?_⟩) ?_ ?_
        rotate_left
        ·intro w'
         go_simp
         with_reducible rfl
        rotate_left
        ·simp only [Act.put, List.setIfInBounds_toArray, List.set_cons_zero, List.set_cons_succ, i64_w, i32_w]
         rfl
        refine pure_ (i := 4) (N := some 22) (v := ?_) (a' := ?_) #[true, true, true, false, true, false, false, false, false, false] rfl rfl (any_of HT_.out (by kernel_rfl)) (fun _ _ _ h => h) (Or.inl ⟨by rfl, ?_⟩) ?_ ?_
        rotate_left
        ·intro w'
         go_simp
         with_reducible rfl
        rotate_left
        ·simp only [Act.put, List.setIfInBounds_toArray, List.set_cons_zero, List.set_cons_succ, i64_w, i32_w]
         rfl
        refine pure_ (i := 5) (N := some 23) (v := ?_) (a' := ?_) #[true, true, true, false, true, true, false, false, false, false] rfl rfl (any_of HT_.out (by kernel_rfl)) (fun _ _ _ h => h) (Or.inl ⟨by rfl, ?_⟩) ?_ ?_
        rotate_left
        ·intro w'
         go_simp
         with_reducible rfl
        rotate_left
        ·simp only [Act.put, List.setIfInBounds_toArray, List.set_cons_zero, List.set_cons_succ, i64_w, i32_w]
         rfl
        refine pure_ (i := 6) (N := some 24) (v := ?_) (a' := ?_) #[true, true, true, false, true, true, true, false, false, false] rfl rfl (any_of HT_.out (by kernel_rfl)) (fun _ _ _ h => h) (Or.inl ⟨by rfl, ?_⟩) ?_ ?_
        rotate_left
        ·intro w'
         go_simp
         with_reducible rfl
        rotate_left
        ·simp only [Act.put, List.setIfInBounds_toArray, List.set_cons_zero, List.set_cons_succ, i64_w, i32_w]
         rfl
        refine take_ (i := 3) (N := some 21) (v := ?_) (a' := ?_) #[true, true, true, true, true, true, true, false, false, false] rfl rfl (take_ofW HT_.out HW_.out (by kernel_rfl)) (fun _ _ _ h => h) (Or.inl ⟨by rfl, ?_⟩) hHeld ?_ ?_
        rotate_left
        ·rintro w' ⟨s0, s1, s2, s3, s4, s5, s6, s7, s8, s9⟩
         go_simp
         with_reducible rfl
        rotate_left
        ·simp only [Act.put, List.setIfInBounds_toArray, List.set_cons_zero, List.set_cons_succ, i64_w, i32_w]
         rfl
        refine take_ (i := 7) (N := some 25) (v := ?_) (a' := ?_) #[true, true, true, true, true, true, true, true, false, false] rfl rfl (take_ofW HT_.out HW_.out (by kernel_rfl)) (fun _ _ _ h => h) (Or.inl ⟨by rfl, ?_⟩) hHeld ?_ ?_
        rotate_left
        ·rintro w' ⟨s0, s1, s2, s3, s4, s5, s6, s7, s8, s9⟩
         go_simp
         with_reducible rfl
        rotate_left
        ·simp only [Act.put, List.setIfInBounds_toArray, List.set_cons_zero, List.set_cons_succ, i64_w, i32_w]
         rfl
        refine one_ (i := 8) (N := some 26) #[true, true, true, true, true, true, true, true, true, false] rfl rfl (one_of HT_.out (by kernel_rfl)) (by decide) (fun K hK => ?_)
        refine goes_ Tryd.func38 (by kernel_rfl) rfl #[.agg #[.int .i64 ((rd_T41 l0 x5_1).f0), .int .i64 ((rd_T41 l0 x5_1).f1), .int .i64 ((rd_T41 l0 x5_1).f2), .int .i64 ((rd_T41 l0 x5_1).f3), .slice A146_4 ((rd_T41 l0 x5_1).f4).length c146_4], .agg #[.int .i64 ((rd_T41 l1 x5_1).f0), .int .i64 ((rd_T41 l1 x5_1).f1), .int .i64 ((rd_T41 l1 x5_1).f2), .int .i64 ((rd_T41 l1 x5_1).f3), .slice A147_4 ((rd_T41 l1 x5_1).f4).length c147_4]] (by rfl) rfl rfl (by (try simp only [List.map_toArray, List.map_cons, List.map_nil]); first | done | rfl | (simp only [List.length_drop, List.length_take]; rfl)) ?_
        with_reducible refine (grapevineref05_One.calls k1 ((rd_T41 l0 x5_1).f0) ((rd_T41 l0 x5_1).f1) ((rd_T41 l0 x5_1).f2) ((rd_T41 l0 x5_1).f3) _ _ ((rd_T41 l0 x5_1).f4) ((rd_T41 l1 x5_1).f0) ((rd_T41 l1 x5_1).f1) ((rd_T41 l1 x5_1).f2) ((rd_T41 l1 x5_1).f3) _ _ ((rd_T41 l1 x5_1).f4) true _ ?side1 ?side2 ?side3 ?side4 A7.out).mono ?_
        (case side1 => repeat (first | exact (Kd.C_below HR146_4.out HB.out) | (with_reducible refine Kd.C_alloc ?_ _) | (with_reducible refine Kd.C_drewN ?_ _) | (with_reducible refine Kd.C_drew ?_)))
        (case side2 => exact HC146_4.out)
        (case side3 => repeat (first | exact (Kd.C_below HR147_4.out HB.out) | (with_reducible refine Kd.C_alloc ?_ _) | (with_reducible refine Kd.C_drewN ?_ _) | (with_reducible refine Kd.C_drew ?_)))
        (case side4 => exact HC147_4.out)
        rintro e w10 ⟨rfl, hb⟩
        refine ⟨_, rfl, ?_⟩
        have n0_ := Aside0.mk (below_step (by repeat (first | (with_reducible first | exact HB.out | apply below_alloc | apply pw_below_drewN | apply below_drew1) | exact HB.out)) hb)
        clear HB
        have HB := n0_
        clear n0_
        (try clear hb)
        (try clear hb2)
        (try clear hk)
        (try clear hi)
        refine hK.out _ _ ⟨((HB.out.cell (World.block_lt_of_cell? w _ hw146_0)).trans hw146_0), ((HB.out.cell (World.block_lt_of_cell? w _ hw146_1)).trans hw146_1), ((HB.out.cell (World.block_lt_of_cell? w _ hw146_2)).trans hw146_2), ((HB.out.cell (World.block_lt_of_cell? w _ hw146_3)).trans hw146_3), ((HB.out.cell (World.block_lt_of_cell? w _ hw146_4)).trans hw146_4), ((HB.out.cell (World.block_lt_of_cell? w _ hw147_0)).trans hw147_0), ((HB.out.cell (World.block_lt_of_cell? w _ hw147_1)).trans hw147_1), ((HB.out.cell (World.block_lt_of_cell? w _ hw147_2)).trans hw147_2), ((HB.out.cell (World.block_lt_of_cell? w _ hw147_3)).trans hw147_3), ((HB.out.cell (World.block_lt_of_cell? w _ hw147_4)).trans hw147_4)⟩ (fun hHeld => ?_)
        clear hK K
        refine norm_ (a' := ?_) ?_ ?_
        rotate_left
        ·show Act.put _ (some 26) _ = _
         simp only [Act.put, List.setIfInBounds_toArray, List.set_cons_zero, List.set_cons_succ, i64_w, i32_w]
         rfl
        refine pure_ (i := 9) (N := some 6) (v := ?_) (a' := ?_) #[true, true, true, true, true, true, true, true, true, true] rfl rfl (any_of HT_.out (by kernel_rfl)) (fun _ _ _ h => h) (Or.inl ⟨by rfl, ?_⟩) ?_ ?_
        rotate_left
        ·intro w'
         go_simp
         with_reducible rfl
        rotate_left
        ·simp only [Act.put, List.setIfInBounds_toArray, List.set_cons_zero, List.set_cons_succ, i64_w, i32_w]
         rfl
        refine done_ (done_of HT_.out (by kernel_rfl)) ?_
        try go_wp2
        go_roundg k1
        case measure => have := HK1.out; omega
        case rel => exact ⟨(wrap64 (x5_1 + 1)), (by first | rfl | (simp; done) | (simp [*]; done)), H', ⟨by have := HK1.out; omega⟩, ⟨by repeat (first | (with_reducible first | exact HB.out | apply below_alloc | apply pw_below_drewN | apply below_drew1) | exact HB.out)⟩⟩
       ·replace c8 := Bool.eq_false_iff.mpr c8
        subst c8
        have H1 : (some false) = some r := by rw [if_neg (show ¬ (false = true) by decide)] at H; exact H
        clear H
        have H := H1
        clear H1
        obtain rfl := Option.some.inj H
        try go_wp2
        have n0_ := Aside0.mk (below_drew1 HB.out)
        clear HB
        have HB := n0_
        clear n0_
        have p146 : 0 ≤ (x5_1 : Int) := of_decide_eq_true (by first | (with_reducible assumption) | assumption)
        have q146 : x5_1 < (l0.length : Int) := of_decide_eq_true (by first | (with_reducible assumption) | assumption)
        obtain ⟨ad146, A146_4, c146_4, e146, hx146_0, hx146_1, hx146_2, hx146_3, hx146_4, hl146_4, hi146_4⟩ := at_T41 HR0.out x5_1 p146 q146
        have hw146_4 := hx146_4
        have hw146_3 := hx146_3
        have hw146_2 := hx146_2
        have hw146_1 := hx146_1
        have hw146_0 := hx146_0
        cases e146
        replace hx146_0 := (HB.out.cell (World.block_lt_of_cell? w _ hx146_0)).trans hx146_0
        replace hx146_1 := (HB.out.cell (World.block_lt_of_cell? w _ hx146_1)).trans hx146_1
        replace hx146_2 := (HB.out.cell (World.block_lt_of_cell? w _ hx146_2)).trans hx146_2
        replace hx146_3 := (HB.out.cell (World.block_lt_of_cell? w _ hx146_3)).trans hx146_3
        replace hx146_4 := (HB.out.cell (World.block_lt_of_cell? w _ hx146_4)).trans hx146_4
        have HR146_4 := Aside0.mk hi146_4
        have HC146_4 := Aside0.mk hl146_4
        clear hi146_4 hl146_4
        replace p146 := eq_true p146
        replace q146 := eq_true q146
        have p147 : 0 ≤ (x5_1 : Int) := of_decide_eq_true (by first | (with_reducible assumption) | assumption)
        have q147 : x5_1 < (l1.length : Int) := of_decide_eq_true (by first | (with_reducible assumption) | assumption)
        obtain ⟨ad147, A147_4, c147_4, e147, hx147_0, hx147_1, hx147_2, hx147_3, hx147_4, hl147_4, hi147_4⟩ := at_T41 HR1.out x5_1 p147 q147
        have hw147_4 := hx147_4
        have hw147_3 := hx147_3
        have hw147_2 := hx147_2
        have hw147_1 := hx147_1
        have hw147_0 := hx147_0
        cases e147
        replace hx147_0 := (HB.out.cell (World.block_lt_of_cell? w _ hx147_0)).trans hx147_0
        replace hx147_1 := (HB.out.cell (World.block_lt_of_cell? w _ hx147_1)).trans hx147_1
        replace hx147_2 := (HB.out.cell (World.block_lt_of_cell? w _ hx147_2)).trans hx147_2
        replace hx147_3 := (HB.out.cell (World.block_lt_of_cell? w _ hx147_3)).trans hx147_3
        replace hx147_4 := (HB.out.cell (World.block_lt_of_cell? w _ hx147_4)).trans hx147_4
        have HR147_4 := Aside0.mk hi147_4
        have HC147_4 := Aside0.mk hl147_4
        clear hi147_4 hl147_4
        replace p147 := eq_true p147
        replace q147 := eq_true q147
        refine start_ (n := 10) (S := fun w' => w'.cell? (ad146.add ((x5_1).toNat * 5)) = some (.int .i64 ((rd_T41 l0 x5_1).f0)) ∧ w'.cell? ⟨(ad146.add ((x5_1).toNat * 5)).block, (ad146.add ((x5_1).toNat * 5)).off + 1, none⟩ = some (.int .i64 ((rd_T41 l0 x5_1).f1)) ∧ w'.cell? ⟨(ad146.add ((x5_1).toNat * 5)).block, (ad146.add ((x5_1).toNat * 5)).off + 2, none⟩ = some (.int .i64 ((rd_T41 l0 x5_1).f2)) ∧ w'.cell? ⟨(ad146.add ((x5_1).toNat * 5)).block, (ad146.add ((x5_1).toNat * 5)).off + 3, none⟩ = some (.int .i64 ((rd_T41 l0 x5_1).f3)) ∧ w'.cell? ⟨(ad146.add ((x5_1).toNat * 5)).block, (ad146.add ((x5_1).toNat * 5)).off + 4, none⟩ = some (.slice A146_4 ((rd_T41 l0 x5_1).f4).length c146_4) ∧ w'.cell? (ad147.add ((x5_1).toNat * 5)) = some (.int .i64 ((rd_T41 l1 x5_1).f0)) ∧ w'.cell? ⟨(ad147.add ((x5_1).toNat * 5)).block, (ad147.add ((x5_1).toNat * 5)).off + 1, none⟩ = some (.int .i64 ((rd_T41 l1 x5_1).f1)) ∧ w'.cell? ⟨(ad147.add ((x5_1).toNat * 5)).block, (ad147.add ((x5_1).toNat * 5)).off + 2, none⟩ = some (.int .i64 ((rd_T41 l1 x5_1).f2)) ∧ w'.cell? ⟨(ad147.add ((x5_1).toNat * 5)).block, (ad147.add ((x5_1).toNat * 5)).off + 3, none⟩ = some (.int .i64 ((rd_T41 l1 x5_1).f3)) ∧ w'.cell? ⟨(ad147.add ((x5_1).toNat * 5)).block, (ad147.add ((x5_1).toNat * 5)).off + 4, none⟩ = some (.slice A147_4 ((rd_T41 l1 x5_1).f4).length c147_4)) (ds := []) #[false, false, false, false, false, false, false, false, false, false] (by kernel_rfl) rfl rfl ⟨((HB.out.cell (World.block_lt_of_cell? w _ hw146_0)).trans hw146_0), ((HB.out.cell (World.block_lt_of_cell? w _ hw146_1)).trans hw146_1), ((HB.out.cell (World.block_lt_of_cell? w _ hw146_2)).trans hw146_2), ((HB.out.cell (World.block_lt_of_cell? w _ hw146_3)).trans hw146_3), ((HB.out.cell (World.block_lt_of_cell? w _ hw146_4)).trans hw146_4), ((HB.out.cell (World.block_lt_of_cell? w _ hw147_0)).trans hw147_0), ((HB.out.cell (World.block_lt_of_cell? w _ hw147_1)).trans hw147_1), ((HB.out.cell (World.block_lt_of_cell? w _ hw147_2)).trans hw147_2), ((HB.out.cell (World.block_lt_of_cell? w _ hw147_3)).trans hw147_3), ((HB.out.cell (World.block_lt_of_cell? w _ hw147_4)).trans hw147_4)⟩ (fun hHeld => ?_); refine with_tabW grapevineref05_Same.tab6 grapevineref05_Same.bits6 (fun HT_ HW_ => ?_)
        generalize wr.drew = w11 at HB HR146_4 HR147_4 hx146_0 hx146_1 hx146_2 hx146_3 hx146_4 hx147_0 hx147_1 hx147_2 hx147_3 hx147_4 hHeld ⊢
        refine pure_ (i := 0) (N := some 18) (v := ?_) (a' := ?_) #[true, false, false, false, false, false, false, false, false, false] rfl rfl (any_of HT_.out (by kernel_rfl)) (fun _ _ _ h => h) (Or.inl ⟨by rfl, ?_⟩) ?_ ?_
        rotate_left
        ·intro w'
         go_simp
         with_reducible rfl
        rotate_left
        ·simp only [Act.put, List.setIfInBounds_toArray, List.set_cons_zero, List.set_cons_succ, i64_w, i32_w]
         rfl
        refine pure_ (i := 1) (N := some 19) (v := ?_) (a' := ?_) #[true, true, false, false, false, false, false, false, false, false] rfl rfl (any_of HT_.out (by kernel_rfl)) (fun _ _ _ h => h) (Or.inl ⟨by rfl, ?_⟩) ?_ ?_
        rotate_left
        ·intro w'
         go_simp
         with_reducible rfl
        rotate_left
        ·simp only [Act.put, List.setIfInBounds_toArray, List.set_cons_zero, List.set_cons_succ, i64_w, i32_w]
         rfl
        refine pure_ (i := 2) (N := some 20) (v := ?_) (a' := ?_) #[true, true, true, false, false, false, false, false, false, false] rfl rfl (any_of HT_.out (by kernel_rfl)) (fun _ _ _ h => h) (Or.inl ⟨by rfl, ?_⟩) ?_ ?_
        rotate_left
        ·intro w'
         go_simp
         with_reducible rfl
        rotate_left
        ·simp only [Act.put, List.setIfInBounds_toArray, List.set_cons_zero, List.set_cons_succ, i64_w, i32_w]
         rfl
        refine pure_ (i := 4) (N := some 22) (v := ?_) (a' := ?_) #[true, true, true, false, true, false, false, false, false, false] rfl rfl (any_of HT_.out (by kernel_rfl)) (fun _ _ _ h => h) (Or.inl ⟨by rfl, ?_⟩) ?_ ?_
        rotate_left
        ·intro w'
         go_simp
         with_reducible rfl
        rotate_left
        ·simp only [Act.put, List.setIfInBounds_toArray, List.set_cons_zero, List.set_cons_succ, i64_w, i32_w]
         rfl
        refine pure_ (i := 5) (N := some 23) (v := ?_) (a' := ?_) #[true, true, true, false, true, true, false, false, false, false] rfl rfl (any_of HT_.out (by kernel_rfl)) (fun _ _ _ h => h) (Or.inl ⟨by rfl, ?_⟩) ?_ ?_
        rotate_left
        ·intro w'
         go_simp
         with_reducible rfl
        rotate_left
        ·simp only [Act.put, List.setIfInBounds_toArray, List.set_cons_zero, List.set_cons_succ, i64_w, i32_w]
         rfl
        refine pure_ (i := 6) (N := some 24) (v := ?_) (a' := ?_) #[true, true, true, false, true, true, true, false, false, false] rfl rfl (any_of HT_.out (by kernel_rfl)) (fun _ _ _ h => h) (Or.inl ⟨by rfl, ?_⟩) ?_ ?_
        rotate_left
        ·intro w'
         go_simp
         with_reducible rfl
        rotate_left
        ·simp only [Act.put, List.setIfInBounds_toArray, List.set_cons_zero, List.set_cons_succ, i64_w, i32_w]
         rfl
        refine take_ (i := 3) (N := some 21) (v := ?_) (a' := ?_) #[true, true, true, true, true, true, true, false, false, false] rfl rfl (take_ofW HT_.out HW_.out (by kernel_rfl)) (fun _ _ _ h => h) (Or.inl ⟨by rfl, ?_⟩) hHeld ?_ ?_
        rotate_left
        ·rintro w' ⟨s0, s1, s2, s3, s4, s5, s6, s7, s8, s9⟩
         go_simp
         with_reducible rfl
        rotate_left
        ·simp only [Act.put, List.setIfInBounds_toArray, List.set_cons_zero, List.set_cons_succ, i64_w, i32_w]
         rfl
        refine take_ (i := 7) (N := some 25) (v := ?_) (a' := ?_) #[true, true, true, true, true, true, true, true, false, false] rfl rfl (take_ofW HT_.out HW_.out (by kernel_rfl)) (fun _ _ _ h => h) (Or.inl ⟨by rfl, ?_⟩) hHeld ?_ ?_
        rotate_left
        ·rintro w' ⟨s0, s1, s2, s3, s4, s5, s6, s7, s8, s9⟩
         go_simp
         with_reducible rfl
        rotate_left
        ·simp only [Act.put, List.setIfInBounds_toArray, List.set_cons_zero, List.set_cons_succ, i64_w, i32_w]
         rfl
        refine one_ (i := 8) (N := some 26) #[true, true, true, true, true, true, true, true, true, false] rfl rfl (one_of HT_.out (by kernel_rfl)) (by decide) (fun K hK => ?_)
        refine goes_ Tryd.func38 (by kernel_rfl) rfl #[.agg #[.int .i64 ((rd_T41 l0 x5_1).f0), .int .i64 ((rd_T41 l0 x5_1).f1), .int .i64 ((rd_T41 l0 x5_1).f2), .int .i64 ((rd_T41 l0 x5_1).f3), .slice A146_4 ((rd_T41 l0 x5_1).f4).length c146_4], .agg #[.int .i64 ((rd_T41 l1 x5_1).f0), .int .i64 ((rd_T41 l1 x5_1).f1), .int .i64 ((rd_T41 l1 x5_1).f2), .int .i64 ((rd_T41 l1 x5_1).f3), .slice A147_4 ((rd_T41 l1 x5_1).f4).length c147_4]] (by rfl) rfl rfl (by (try simp only [List.map_toArray, List.map_cons, List.map_nil]); first | done | rfl | (simp only [List.length_drop, List.length_take]; rfl)) ?_
        with_reducible refine (grapevineref05_One.calls k1 ((rd_T41 l0 x5_1).f0) ((rd_T41 l0 x5_1).f1) ((rd_T41 l0 x5_1).f2) ((rd_T41 l0 x5_1).f3) _ _ ((rd_T41 l0 x5_1).f4) ((rd_T41 l1 x5_1).f0) ((rd_T41 l1 x5_1).f1) ((rd_T41 l1 x5_1).f2) ((rd_T41 l1 x5_1).f3) _ _ ((rd_T41 l1 x5_1).f4) false _ ?side1 ?side2 ?side3 ?side4 A7.out).mono ?_
        (case side1 => repeat (first | exact (Kd.C_below HR146_4.out HB.out) | (with_reducible refine Kd.C_alloc ?_ _) | (with_reducible refine Kd.C_drewN ?_ _) | (with_reducible refine Kd.C_drew ?_)))
        (case side2 => exact HC146_4.out)
        (case side3 => repeat (first | exact (Kd.C_below HR147_4.out HB.out) | (with_reducible refine Kd.C_alloc ?_ _) | (with_reducible refine Kd.C_drewN ?_ _) | (with_reducible refine Kd.C_drew ?_)))
        (case side4 => exact HC147_4.out)
        rintro e w12 ⟨rfl, hb⟩
        refine ⟨_, rfl, ?_⟩
        have n0_ := Aside0.mk (below_step (by repeat (first | (with_reducible first | exact HB.out | apply below_alloc | apply pw_below_drewN | apply below_drew1) | exact HB.out)) hb)
        clear HB
        have HB := n0_
        clear n0_
        (try clear hb)
        (try clear hb2)
        (try clear hk)
        (try clear hi)
        refine hK.out _ _ ⟨((HB.out.cell (World.block_lt_of_cell? w _ hw146_0)).trans hw146_0), ((HB.out.cell (World.block_lt_of_cell? w _ hw146_1)).trans hw146_1), ((HB.out.cell (World.block_lt_of_cell? w _ hw146_2)).trans hw146_2), ((HB.out.cell (World.block_lt_of_cell? w _ hw146_3)).trans hw146_3), ((HB.out.cell (World.block_lt_of_cell? w _ hw146_4)).trans hw146_4), ((HB.out.cell (World.block_lt_of_cell? w _ hw147_0)).trans hw147_0), ((HB.out.cell (World.block_lt_of_cell? w _ hw147_1)).trans hw147_1), ((HB.out.cell (World.block_lt_of_cell? w _ hw147_2)).trans hw147_2), ((HB.out.cell (World.block_lt_of_cell? w _ hw147_3)).trans hw147_3), ((HB.out.cell (World.block_lt_of_cell? w _ hw147_4)).trans hw147_4)⟩ (fun hHeld => ?_)
        clear hK K
        refine norm_ (a' := ?_) ?_ ?_
        rotate_left
        ·show Act.put _ (some 26) _ = _
         simp only [Act.put, List.setIfInBounds_toArray, List.set_cons_zero, List.set_cons_succ, i64_w, i32_w]
         rfl
        refine pure_ (i := 9) (N := some 6) (v := ?_) (a' := ?_) #[true, true, true, true, true, true, true, true, true, true] rfl rfl (any_of HT_.out (by kernel_rfl)) (fun _ _ _ h => h) (Or.inl ⟨by rfl, ?_⟩) ?_ ?_
        rotate_left
        ·intro w'
         go_simp
         with_reducible rfl
        rotate_left
        ·simp only [Act.put, List.setIfInBounds_toArray, List.set_cons_zero, List.set_cons_succ, i64_w, i32_w]
         rfl
        refine done_ (done_of HT_.out (by kernel_rfl)) ?_
        try go_wp2
        go_ret
        exact ⟨by first | rfl | (simp [errW_none, errW_some] <;> rfl) | (simp [*, errW_none, errW_some] <;> rfl), by repeat (first | (with_reducible first | exact HB.out | apply below_alloc | apply pw_below_drewN | apply below_drew1) | exact HB.out)⟩
      ·rw [if_neg c6] at H
       exact absurd H (by simp)
     ·rw [if_neg c5] at H
      exact absurd H (by simp)
    ·rw [if_neg c4] at H
     have c4b0 : decide (x5_1 < (l0.length : Int)) = false := decide_eq_false c4
     clear c4
     obtain rfl := Option.some.inj H
     go_wp2
     go_ret
     exact ⟨by first | rfl | (simp [errW_none, errW_some] <;> rfl) | (simp [*, errW_none, errW_some] <;> rfl), by repeat (first | (with_reducible first | exact HB.out | apply below_alloc | apply pw_below_drewN | apply below_drew1) | exact HB.out)⟩
 ·rw [if_neg c3] at H
  have c3b0 : ((l0.length : Int) == (l1.length : Int)) = false := beq_eq_false_iff_ne.mpr c3
  have c3b1 : ((l0.length : Int) != (l1.length : Int)) = true := bne_iff_ne.mpr c3
  have c3b2 : (l0.length == l1.length) = false := by first | simpa using c3 | (simp at c3 ⊢; omega)
  obtain rfl := Option.some.inj H
  go_enter Tryd.func14, Tryd.ntmps14
  go_wp2
  go_ret
  exact ⟨by first | rfl | (simp [errW_none, errW_some] <;> rfl) | (simp [*, errW_none, errW_some] <;> rfl), by repeat (first | (with_reducible first | exact HB.out | apply below_alloc | apply pw_below_drewN | apply below_drew1) | exact HB.out)⟩


end Go.Proofs.YtamojbfmphainaaDoor.Pr
-- shrunk
/-
The document's Same of hunks: a list is the same as itself; what is read of a list of hunks.
-/
namespace Go.Proofs.YtamojbfmphainaaDoor.Pr
open Go.RowKit Go.Proofs.YtamojbfmphainaaDoorW.PrintWords Go.Proofs.YtamojbfmphainaaDoorW.PrintLast Go.Proofs.YtamojbfmphainaaDoorW.PrintMore
set_option linter.unusedVariables false
set_option linter.unusedSimpArgs false
theorem OneS_ev (h : Hk) (hl : h.f4.length ≤ 4611686018427387904) : Ev (fun k => grapevineref05_One.f k h.f0 h.f1 h.f2 h.f3 h.f4 h.f0 h.f1 h.f2 h.f3 h.f4) true := by
 unfold grapevineref05_One.f
 simp only [if_true]
 have h2 := Texts_ev h.f4 h.f4 hl
 rw [decide_eq_true rfl] at h2
 refine Ev.bind h2 ?_
 exact Ev.now _
theorem SameH_l0 (a : List Hk) (hn : a.length ≤ 4611686018427387904) (hl : ∀ h ∈ a, h.f4.length ≤ 4611686018427387904) : ∀ d i, a.length - i = d → i ≤ a.length → Ev (fun k => grapevineref05_Same.l0 k a a (i : Int)) true := by
 intro d
 induction d with
 | zero =>
  intro i hd hi
  refine Ev.step (fun _ => grapevineref05_Same.l0.eq_2 ..) ?_
  simp only [if_neg (show ¬ (i : Int) < (a.length : Int) by omega)]
  exact Ev.now _
 | succ d ih =>
  intro i hd hi
  refine Ev.step (fun _ => grapevineref05_Same.l0.eq_2 ..) ?_
  have h0 : i < a.length := by omega
  simp only [if_pos (show (i : Int) < (a.length : Int) by omega), if_pos (show 0 ≤ (i : Int) by omega), rdU_at h0, w_succ h0 hn]
  refine Ev.bind (OneS_ev _ (hl _ (List.getElem_mem h0))) ?_
  simp only [if_true]
  exact ih (i + 1) (by omega) (by omega)
theorem SameH_ev (a : List Hk) (hn : a.length ≤ 4611686018427387904) (hl : ∀ h ∈ a, h.f4.length ≤ 4611686018427387904) : Ev (fun k => grapevineref05_Same.f k a a) true := by
 unfold grapevineref05_Same.f
 simp only [if_true]
 exact SameH_l0 a hn hl _ 0 rfl (by omega)
end Go.Proofs.YtamojbfmphainaaDoor.Pr
-- shrunk
/-
The chapter's example of layer 6: it answers true.
-/
namespace Go.Proofs.YtamojbfmphainaaDoor.Pr
open Go.RowKit Go.Proofs.YtamojbfmphainaaDoorW.PrintWords Go.Proofs.YtamojbfmphainaaDoorW.PrintLast Go.Proofs.YtamojbfmphainaaDoorW.PrintMore
set_option linter.unusedVariables false
set_option linter.unusedSimpArgs false
theorem C_two (w : World) (s t : ByteArray) : Kd.string.C (w.alloc (.cells #[.string s, .string t] 9 (0, 0))) (some ⟨w.heap.size, 0, none⟩) 2 [s, t] := by
 have hb := blk_new w (.cells #[.string s, .string t] 9 (0, 0))
 refine ⟨rfl, by omega, fun _ => ⟨_, rfl, fun j p hj => ⟨[.string p], rfl, rfl, fun i u hu => ?_⟩⟩⟩
 rcases j with _ | _ | j
 ·obtain rfl : s = p := by simpa using hj
  rcases i with _ | i
  ·obtain rfl : Value.string s = u := by simpa using hu
   exact (blk_cell hb 0).trans rfl
  ·simp at hu
 ·obtain rfl : t = p := by simpa using hj
  rcases i with _ | i
  ·obtain rfl : Value.string t = u := by simpa using hu
   exact (blk_cell hb 1).trans rfl
  ·simp at hu
 ·simp at hj
theorem C_newH (w : World) (x : S41) (A : Option Addr) (c : Nat) (hc : x.f4.length ≤ c) (h : Kd.string.C w A x.f4.length x.f4) :
  Kd.C k41 (w.alloc (.cells #[.int .i64 x.f0, .int .i64 x.f1, .int .i64 x.f2, .int .i64 x.f3, .slice A x.f4.length c] 41 (0, 0))) (some ⟨w.heap.size, 0, none⟩) 1 [x] := by
 have hb := blk_new w (.cells #[.int .i64 x.f0, .int .i64 x.f1, .int .i64 x.f2, .int .i64 x.f3, .slice A x.f4.length c] 41 (0, 0))
 refine ⟨rfl, by omega, fun _ => ⟨_, rfl, fun j p hj => ?_⟩⟩
 rcases j with _ | j
 ·obtain rfl : x = p := by simpa using hj
  refine ⟨_, rfl, k41_mk _ x hc (Kd.C_alloc h _), fun i u hu => ?_⟩
  rcases i with _ | _ | _ | _ | _ | i
  ·obtain rfl := Option.some.inj hu; exact (blk_cell hb 0).trans rfl
  ·obtain rfl := Option.some.inj hu; exact (blk_cell hb 1).trans rfl
  ·obtain rfl := Option.some.inj hu; exact (blk_cell hb 2).trans rfl
  ·obtain rfl := Option.some.inj hu; exact (blk_cell hb 3).trans rfl
  ·obtain rfl := Option.some.inj hu; exact (blk_cell hb 4).trans rfl
  ·simp at hu
 ·simp at hj
theorem printU_calls (A : Option Addr) (c : Nat) (l : List S41) (w : World) (hL : LaidU w) (hr : Kd.C k41 w A l.length l) (hc : l.length ≤ c) (h12 : l.length ≤ 12) (hF : ∀ x ∈ l, FewH x ∧ ∀ s ∈ x.f4, s.size ≤ 499) :
  Calls Tryd.prog 10 #[.slice A l.length c] w fun e w' => e = .returned (.string (printL canH l ⟨#[]⟩)) ∧ Below w.heap.size w w' :=
 print_calls canH A c l w hL hr hc
  (fun x hx => ucan_ev x (by obtain ⟨h1, h2, h3, h4, h5, h6, h7, h8, h9⟩ := (hF x hx).1; exact ⟨by omega, by omega, by omega, by omega⟩) (by have := (hF x hx).1.1; omega) (fun s hs => by have := (hF x hx).2 s hs; omega))
  (fun x hx hc => by
   obtain ⟨⟨h1, h2, h3, h4, h5, h6, h7, h8, h9⟩, _⟩ := hF x hx
   unfold canH at hc
   rw [Bool.and_eq_true, Bool.and_eq_true] at hc
   have hr := of_decide_eq_true hc.2.1
   have e1 : 0 ≤ x.f1 := by rw [hr.2.2.2.1]; omega
   have e2 : 0 ≤ x.f3 := by rw [hr.2.2.2.2]; omega
   have := hr.2.1
   have := hr.2.2.1
   omega)
  (by omega) (fun x hx => ⟨by have := (hF x hx).1.1; omega, fun s hs => by have := (hF x hx).2 s hs; omega⟩)
theorem rprintU_calls (A : Option Addr) (c : Nat) (l : List S41) (w : World) (hr : Kd.C k41 w A l.length l) (hc : l.length ≤ c) (h12 : l.length ≤ 12) (hF : ∀ x ∈ l, FewH x ∧ ∀ s ∈ x.f4, s.size ≤ 499) :
  Calls Tryd.prog 11 #[.slice A l.length c] w fun e w' => e = .returned (.string (printL canH l ⟨#[]⟩)) ∧ Below w.heap.size w w' :=
 rprint_calls canH A c l w hr hc
  (fun x hx => rcan_ev x (by have := (hF x hx).1.1; omega) (fun s hs => by have := (hF x hx).2 s hs; omega))
  (fun x hx hc => by
   obtain ⟨⟨h1, h2, h3, h4, h5, h6, h7, h8, h9⟩, _⟩ := hF x hx
   unfold canH at hc
   rw [Bool.and_eq_true, Bool.and_eq_true] at hc
   have hr := of_decide_eq_true hc.2.1
   have e1 : 0 ≤ x.f1 := by rw [hr.2.2.2.1]; omega
   have e2 : 0 ≤ x.f3 := by rw [hr.2.2.2.2]; omega
   have e3 := hr.2.1
   have e4 := hr.2.2.1
   exact ⟨rside_ev _ _ (by omega) (by omega) (by omega) (by omega), rside_ev _ _ (by omega) (by omega) (by omega) (by omega), fromB_size (by omega) (by omega) (by omega) (by omega), fromB_size (by omega) (by omega) (by omega) (by omega)⟩)
  (by omega) (fun x hx => ⟨by have := (hF x hx).1.1; omega, fun s hs => by have := (hF x hx).2 s hs; omega⟩)
set_option maxRecDepth 100000 in
set_option maxHeartbeats 4000000 in
theorem awakeU_calls (w : World) (hL : LaidU w) : Calls Tryd.prog 8 #[] w fun e w' => e = .returned (.bool true) ∧ Below w.heap.size w w' := by
 have HL := Aside0.mk hL
 clear hL
 go_enter Tryd.func8, Tryd.ntmps8
 go_upto_region 2 with (fail)
 have HS0 := C_two w ⟨#[45, 97, 10]⟩ ⟨#[43, 98]⟩
 have HB0 : Below w.heap.size w (w.alloc (.cells #[.string ⟨#[45, 97, 10]⟩, .string ⟨#[43, 98]⟩] 9 (0, 0))) := below_alloc (Below.refl _ _) _
 have hz0 : (w.alloc (.cells #[.string ⟨#[45, 97, 10]⟩, .string ⟨#[43, 98]⟩] 9 (0, 0))).heap.size = w.heap.size + 1 := by show (w.heap.push _).size = _; exact Array.size_push _
 generalize w.alloc (.cells #[.string ⟨#[45, 97, 10]⟩, .string ⟨#[43, 98]⟩] 9 (0, 0)) = W0 at HS0 HB0 hz0 ⊢
 rw [← hz0]
 have HBX := Aside0.mk (blk_new W0 (.cells #[.int .i64 0, .int .i64 1, .int .i64 0, .int .i64 1, .slice (some ⟨w.heap.size, 0, none⟩) 2 2] 41 (0, 0)))
 have HB1 : Below w.heap.size w (W0.alloc (.cells #[.int .i64 0, .int .i64 1, .int .i64 0, .int .i64 1, .slice (some ⟨w.heap.size, 0, none⟩) 2 2] 41 (0, 0))) := below_alloc HB0 _
 have HS1 := Aside0.mk (Kd.C_alloc HS0 (.cells #[.int .i64 0, .int .i64 1, .int .i64 0, .int .i64 1, .slice (some ⟨w.heap.size, 0, none⟩) 2 2] 41 (0, 0)))
 generalize W0.alloc (.cells #[.int .i64 0, .int .i64 1, .int .i64 0, .int .i64 1, .slice (some ⟨w.heap.size, 0, none⟩) 2 2] 41 (0, 0)) = W1 at HBX HB1 HS1 ⊢
 clear HS0 HB0 hz0
 generalize W0.heap.size = g at HBX ⊢
 obtain ⟨A, hA⟩ : ∃ A : Option Addr, A = some ⟨w.heap.size, 0, none⟩ := ⟨_, rfl⟩
 rw [← hA] at HBX HS1 ⊢
 clear hA
 have HL1 := Aside0.mk (HL.out.below HB1)
 have hC : ∀ W, Kd.string.C W A 2 exU.f4 → Kd.C k41 (W.alloc (.cells #[.int .i64 0, .int .i64 1, .int .i64 0, .int .i64 1, .slice A 2 2] 41 (0, 0))) (some ⟨W.heap.size, 0, none⟩) 1 [exU] := fun W h => C_newH W exU A 2 (Nat.le_refl _) h
 have hF : ∀ x ∈ [exU], FewH x ∧ ∀ s ∈ x.f4, s.size ≤ 499 := by
  intro x hx
  obtain rfl := List.mem_singleton.1 hx
  refine ⟨by decide, fun s hs => ?_⟩
  simp only [exU, List.mem_cons, List.not_mem_nil, or_false] at hs
  rcases hs with rfl | rfl
  ·show 3 ≤ 499; omega
  ·show 2 ≤ 499; omega
 have CP := Aside0.mk (show Calls Tryd.prog 10 #[.slice (some ⟨W1.heap.size, 0, none⟩) 1 1] (W1.alloc (.cells #[.int .i64 0, .int .i64 1, .int .i64 0, .int .i64 1, .slice A 2 2] 41 (0, 0))) fun e w' => e = .returned (.string (printL canH [exU] ⟨#[]⟩)) ∧ Below (W1.alloc (.cells #[.int .i64 0, .int .i64 1, .int .i64 0, .int .i64 1, .slice A 2 2] 41 (0, 0))).heap.size (W1.alloc (.cells #[.int .i64 0, .int .i64 1, .int .i64 0, .int .i64 1, .slice A 2 2] 41 (0, 0))) w' from printU_calls (some ⟨W1.heap.size, 0, none⟩) 1 [exU] (W1.alloc (.cells #[.int .i64 0, .int .i64 1, .int .i64 0, .int .i64 1, .slice A 2 2] 41 (0, 0))) (HL1.out.below (below_alloc (Below.refl _ _) _)) (hC W1 HS1.out) (by decide) (by decide) hF)
 rw [print_ex] at CP
 have HB2 := Aside0.mk (below_alloc HB1 (.cells #[.int .i64 0, .int .i64 1, .int .i64 0, .int .i64 1, .slice A 2 2] 41 (0, 0)))
 have HK2 := Aside0.mk (below_alloc (Below.refl W1.heap.size W1) (.cells #[.int .i64 0, .int .i64 1, .int .i64 0, .int .i64 1, .slice A 2 2] 41 (0, 0)))
 have z0 : W1.cell? ⟨g, 0, none⟩ = some (.int .i64 0) := (blk_cell HBX.out 0).trans rfl
 have z1 : W1.cell? ⟨g, 1, none⟩ = some (.int .i64 1) := (blk_cell HBX.out 1).trans rfl
 have z2 : W1.cell? ⟨g, 2, none⟩ = some (.int .i64 0) := (blk_cell HBX.out 2).trans rfl
 have z3 : W1.cell? ⟨g, 3, none⟩ = some (.int .i64 1) := (blk_cell HBX.out 3).trans rfl
 have z4 : W1.cell? ⟨g, 4, none⟩ = some (.slice A 2 2) := (blk_cell HBX.out 4).trans rfl
 obtain ⟨T, hT⟩ : ∃ T, T = exUT := ⟨_, rfl⟩
 rw [← hT] at CP
 have hP : parseU T = ([exU], 0, 0) := by rw [hT, parse_ex]
 have f1 : (T.toList == [64, 64, 32, 45, 49, 44, 49, 32, 43, 49, 44, 49, 32, 64, 64, 10, 45, 97, 10, 43, 98, 10, 92, 32, 78, 111, 32, 110, 101, 119, 108, 105, 110, 101, 32, 97, 116, 32, 101, 110, 100, 32, 111, 102, 32, 102, 105, 108, 101, 10]) = true := by rw [hT]; decide +kernel
 have hTs : T.size ≤ 1073741824 := by rw [hT]; decide
 clear hT
 have CQ := Aside0.mk (show ∀ W, LaidU W → Calls Tryd.prog 12 #[.string T] W fun e w' => ∃ B c, e = .returned (.tuple #[.slice B 1 c, .int .i64 0, .int .i64 0]) ∧ 1 ≤ c ∧ Kd.C k41 w' B 1 [exU] ∧ Below W.heap.size W w' from fun W h => by
  have h1 := parse_calls T hTs W h
  unfold ParseEnd at h1
  rw [hP] at h1
  exact h1)
 have CX := Aside0.mk (show ∀ W, LaidU W → Calls Tryd.prog 12 #[.string ⟨#[120]⟩] W fun e w' => ∃ B c, e = .returned (.tuple #[.slice B 0 c, .int .i64 1, .int .i64 3]) ∧ Below W.heap.size W w' from fun W h =>
  (parse_calls (⟨#[120]⟩ : ByteArray) (by decide) W h).mono fun e w' ⟨B, c, h1, _, _, h2⟩ => ⟨B, c, by rw [h1, parse_x]; rfl, h2⟩)
 clear hP hTs HB1
 go_upto_region 3 with (go_at_call 10; (with_reducible refine CP.out.mono ?_); rintro e w2 ⟨rfl, hb⟩; have HB3 := Aside0.mk (below_step HB2.out hb); have HK3 := Aside0.mk (below_step HK2.out hb); clear hb)
 have HL3 := Aside0.mk (HL.out.below HB3.out)
 go_upto_region 4 with (go_at_call 12; (with_reducible refine (CQ.out _ HL3.out).mono ?_); rintro e w3 ⟨B3, c3, rfl, hc3, hr3, hb⟩; have HC3 := Aside0.mk hc3; have HR3 := Aside0.mk hr3; have HB4 := Aside0.mk (below_step HB3.out hb); have HK4 := Aside0.mk (below_step HK3.out hb); clear hb hc3 hr3)
 have HL4 := Aside0.mk (HL.out.below HB4.out)
 go_upto_region 5 with (go_at_call 12; (with_reducible refine (CX.out _ HL4.out).mono ?_); rintro e w4 ⟨B4, c4, rfl, hb⟩; have HB5 := Aside0.mk (below_step HB4.out hb); have HK5 := Aside0.mk (below_step HK4.out hb); have HR4 := Aside0.mk (Kd.C_below HR3.out hb); clear hb)
 have y0 := pw_cell_below HK5.out z0
 have y1 := pw_cell_below HK5.out z1
 have y2 := pw_cell_below HK5.out z2
 have y3 := pw_cell_below HK5.out z3
 have y4 := pw_cell_below HK5.out z4
 clear z0 z1 z2 z3 z4
 have HS5 := Aside0.mk (Kd.C_below HS1.out HK5.out)
 obtain ⟨ks, hks⟩ := (SameH_ev [exU] (by decide) (by decide)).rounds
 have CS := Aside0.mk (show Calls Tryd.prog 14 #[.slice B3 1 c3, .slice (some ⟨w4.heap.size, 0, none⟩) 1 1] (w4.alloc (.cells #[.int .i64 0, .int .i64 1, .int .i64 0, .int .i64 1, .slice A 2 2] 41 (0, 0))) fun e w' => e = .returned (.bool true) ∧ Below (w4.alloc (.cells #[.int .i64 0, .int .i64 1, .int .i64 0, .int .i64 1, .slice A 2 2] 41 (0, 0))).heap.size (w4.alloc (.cells #[.int .i64 0, .int .i64 1, .int .i64 0, .int .i64 1, .slice A 2 2] 41 (0, 0))) w' from
  grapevineref05_Same.calls ks B3 c3 [exU] (some ⟨w4.heap.size, 0, none⟩) 1 [exU] true (w4.alloc (.cells #[.int .i64 0, .int .i64 1, .int .i64 0, .int .i64 1, .slice A 2 2] 41 (0, 0))) (Kd.C_alloc HR4.out _) HC3.out (hC w4 HS5.out) (by decide) hks)
 have HB6 := Aside0.mk (below_alloc HB5.out (.cells #[.int .i64 0, .int .i64 1, .int .i64 0, .int .i64 1, .slice A 2 2] 41 (0, 0)))
 clear hks hC hF
 go_wp2_with (go_at_call 14; (with_reducible refine CS.out.mono ?_); rintro e w5 ⟨rfl, hb⟩; have HB7 := Aside0.mk (below_step HB6.out hb); clear hb)
 go_ret
 exact ⟨rfl, HB7.out⟩
end Go.Proofs.YtamojbfmphainaaDoor.Pr
-- shrunk
/-
UnifiedPrints, walked.
-/
namespace Go.Proofs.YtamojbfmphainaaDoor.Pr
open Go.RowKit Go.Proofs.YtamojbfmphainaaDoorW.PrintWords Go.Proofs.YtamojbfmphainaaDoorW.PrintLast Go.Proofs.YtamojbfmphainaaDoorW.PrintMore
set_option linter.unusedVariables false
set_option linter.unusedSimpArgs false
set_option maxRecDepth 100000 in
set_option maxHeartbeats 4000000 in
theorem prints_law (A : Option Addr) (c : Nat) (l : List S41) (w : World) (hL : LaidU w) (hr : Kd.C k41 w A l.length l) (hc : l.length ≤ c) (hn : l.length ≤ 4611686018427387904) :
  Calls Tryd.prog 3 #[.slice A l.length c] w fun e w' => e = .returned (.bool true) ∧ Below w.heap.size w w' := by
 have HL := Aside0.mk hL
 have HR := Aside0.mk hr
 have HC := Aside0.mk hc
 have CA := Aside0.mk (awakeU_calls w hL)
 obtain ⟨kf, hkf⟩ := (fewU_ev l hn).rounds
 clear hL hr hc hn
 by_cases hf : fewU l = true
 ·have HF := Aside0.mk (fewU_of hf)
  rw [hf] at hkf
  have CF := Aside0.mk (fun W (h : Kd.C k41 W A l.length l) => grapevinelaw06_few.calls kf A c l true W h HC.out hkf)
  clear hf hkf
  obtain ⟨T, hT⟩ : ∃ T, T = printL canH l ⟨#[]⟩ := ⟨_, rfl⟩
  have CP := Aside0.mk (show ∀ W, LaidU W → Kd.C k41 W A l.length l → Calls Tryd.prog 10 #[.slice A l.length c] W fun e w' => e = .returned (.string T) ∧ Below W.heap.size W w' from fun W h1 h2 => by rw [hT]; exact printU_calls A c l W h1 h2 HC.out HF.out.1 HF.out.2)
  have CR := Aside0.mk (show ∀ W, Kd.C k41 W A l.length l → Calls Tryd.prog 11 #[.slice A l.length c] W fun e w' => e = .returned (.string T) ∧ Below W.heap.size W w' from fun W h2 => by rw [hT]; exact rprintU_calls A c l W h2 HC.out HF.out.1 HF.out.2)
  clear hT HF
  have f1 : (T.toList == T.toList) = true := beq_self_eq_true _
  go_enter Tryd.func3, Tryd.ntmps3
  go_wp2_with (first
   | (go_at_call 8; (with_reducible refine CA.out.mono ?_); rintro e w1 ⟨rfl, hb⟩; have HB1 := Aside0.mk hb; have HR1 := Aside0.mk (Kd.C_below HR.out hb); clear hb)
   | (go_at_call 9; (with_reducible refine (CF.out _ HR1.out).mono ?_); rintro e w2 ⟨rfl, hb⟩; have HB2 := Aside0.mk (below_step HB1.out hb); have HR2 := Aside0.mk (Kd.C_below HR1.out hb); have HL2 := Aside0.mk (HL.out.below HB2.out); clear hb)
   | (go_at_call 10; (with_reducible refine (CP.out _ HL2.out HR2.out).mono ?_); rintro e w3 ⟨rfl, hb⟩; have HB3 := Aside0.mk (below_step HB2.out hb); have HR3 := Aside0.mk (Kd.C_below HR2.out hb); clear hb)
   | (go_at_call 11; (with_reducible refine (CR.out _ HR3.out).mono ?_); rintro e w4 ⟨rfl, hb⟩; have HB4 := Aside0.mk (below_step HB3.out hb); clear hb))
  go_ret
  exact ⟨rfl, HB4.out⟩
 ·have CF := Aside0.mk (fun W (h : Kd.C k41 W A l.length l) => grapevinelaw06_few.calls kf A c l false W h HC.out (by rw [← Bool.eq_false_iff.2 hf]; exact hkf))
  clear hf hkf
  go_enter Tryd.func3, Tryd.ntmps3
  go_wp2_with (first
   | (go_at_call 8; (with_reducible refine CA.out.mono ?_); rintro e w1 ⟨rfl, hb⟩; have HB1 := Aside0.mk hb; have HR1 := Aside0.mk (Kd.C_below HR.out hb); clear hb)
   | (go_at_call 9; (with_reducible refine (CF.out _ HR1.out).mono ?_); rintro e w2 ⟨rfl, hb⟩; have HB2 := Aside0.mk (below_step HB1.out hb); clear hb))
  go_ret
  exact ⟨rfl, HB2.out⟩
end Go.Proofs.YtamojbfmphainaaDoor.Pr
-- shrunk
/-
Arguments that are slices of whatever kind, opened, with the sizes of all that is read behind them. General: no program in sight.
-/
namespace Go.Proofs.YtamojbfmphainaaDoor.Pr
open Go.RowKit Go.Proofs.YtamojbfmphainaaDoorW.PrintWords Go.Proofs.YtamojbfmphainaaDoorW.PrintLast Go.Proofs.YtamojbfmphainaaDoorW.PrintMore
open Go.ChangeShapes Go.WideShapes Go.Deep
def Rz (P : Program) {α : Type} (d : Kd α) (S : α → Prop) (t : TypeId) : Prop :=
 ∀ (H : Type) (enc : TypeId × Value → H) (w : World) (base : Nat) (spare : Nat → Bool) (held : Bool) (fuel : Nat) (cs : List Value) (x : DataW H × List MemPlace),
  DataW.trod enc P w base spare held fuel t cs = some x → (∀ n ∈ x.1.weights P t, n ≤ 140737488351232) → ∃ y, d.K w y cs ∧ S y
theorem Rz.int {P : Program} {t : TypeId} {k : IntKind} (hu : P.underlying t = some (.int k)) : Rz P (Kd.int k) (fun n => (Lit.int k n).wf = true) t := fun H enc w base spare held fuel cs x h _ => by
 obtain ⟨n, rfl, _, hw⟩ := DataW.trod_int hu h
 exact ⟨n, rfl, hw⟩
theorem Rz.string {P : Program} {t : TypeId} (hu : P.underlying t = some .string) : Rz P Kd.string (fun s => s.size ≤ 140737488351232) t := fun H enc w base spare held fuel cs x h hz => by
 obtain ⟨s, rfl, rfl, _⟩ := DataW.trod_string hu h
 refine ⟨s, rfl, ?_⟩
 have := hz s.data.toList.length (by simp [DataW.weights])
 simpa using this
theorem weights_mem_all {H : Type} {P : Program} {e : TypeId} : ∀ {l : List (DataW H)} {d : DataW H}, d ∈ l → ∀ n ∈ d.weights P e, n ∈ DataW.weightsAll P e l
 | c :: l, d, hd, n, hn => by
  simp only [DataW.weightsAll, List.mem_append]
  rcases List.mem_cons.1 hd with rfl | hd
  ·exact Or.inl hn
  ·exact Or.inr (weights_mem_all hd n hn)
theorem Rz.slice {P : Program} {α : Type} {d : Kd α} {S : α → Prop} {t e : TypeId} {B : Nat} (hu : P.underlying t = some (.slice e)) (hc : P.cellsOf e = d.sz) (hB : P.bytesOf e = B) (hd : Rz P d S e) :
  Rz P (Kd.slice e d) (fun xs => xs.length * B ≤ 140737488351232 ∧ ∀ y ∈ xs, S y) t := fun H enc w base spare held fuel cs x h hz => by
 rcases open_slice hu h with ⟨rfl, _⟩ | ⟨a, len, cap, m, n, D, Pl, rfl, hb, hl, hm, hmm, rfl, hx⟩
 ·exact ⟨[], ⟨none, 0, rfl, Nat.le_refl _, rfl, by simp, fun h0 => absurd h0 (Nat.lt_irrefl _)⟩, by simp, by simp⟩
 ·have hlm : len ≤ m := by rw [hmm]; split <;> omega
  have hw0 : len * B ≤ 140737488351232 := by
   have h1 := hz ((((List.range len).map D).length + ((List.range (m - len)).map fun j => D (len + j)).length) * P.bytesOf e) (by simp [DataW.weights, hu])
   rw [hB] at h1
   simp only [List.length_map, List.length_range] at h1
   exact Nat.le_trans (Nat.mul_le_mul_right _ (Nat.le_add_right _ _)) h1
  have hw1 : ∀ i, i < len → ∀ q ∈ (D i).weights P e, q ≤ 140737488351232 := fun i hi q hq => by
   refine hz q ?_
   simp only [DataW.weights, hu, List.mem_cons, List.mem_append]
   exact Or.inr (Or.inl (weights_mem_all (List.mem_map.2 ⟨i, List.mem_range.2 hi, rfl⟩) q hq))
  have key : ∀ k, k ≤ len → ∃ xs : List α, xs.length = k ∧ (∀ y ∈ xs, S y) ∧ ∀ j p, xs[j]? = some p → ∃ c, c.length = d.sz ∧ d.K w p c ∧ ∀ i u, c[i]? = some u → w.cell? (a.add (j * d.sz + i)) = some u := by
   intro k
   induction k with
   | zero => exact fun _ => ⟨[], rfl, by simp, fun j p hj => by simp at hj⟩
   | succ k ih =>
    intro hk
    obtain ⟨xs, hxl, hS, hxs⟩ := ih (by omega)
    obtain ⟨cs', h1, h2⟩ := hx k (by omega)
    obtain ⟨y, hy, hSy⟩ := hd H enc w base spare held n cs' _ h2 (hw1 k (by omega))
    obtain ⟨_, hlen, hcell⟩ := World.cells?_some h1
    refine ⟨xs ++ [y], by simp [hxl], fun z hz => ?_, fun j p hj => ?_⟩
    ·rcases List.mem_append.1 hz with hz | hz
     ·exact hS z hz
     ·rw [List.mem_singleton.1 hz]; exact hSy
    by_cases hjk : j < k
    ·rw [List.getElem?_append_left (by omega)] at hj
     exact hxs j p hj
    ·have hj' : j = k := by
      have : j < (xs ++ [y]).length := by
       rcases Nat.lt_or_ge j (xs ++ [y]).length with h | h
       ·exact h
       ·rw [List.getElem?_eq_none h] at hj; cases hj
      simp [hxl] at this; omega
     subst hj'
     rw [List.getElem?_append_right (by omega), hxl, Nat.sub_self] at hj
     obtain rfl := Option.some.inj hj
     refine ⟨cs', by rw [hlen, hc], hy, fun i u hi => ?_⟩
     have hlt : i < cs'.length := by
      rcases Nat.lt_or_ge i cs'.length with h | h
      ·exact h
      ·rw [List.getElem?_eq_none h] at hi; cases hi
     rw [← hc, ← Deep.add_add, hcell i (by omega), hi]
  obtain ⟨xs, rfl, hS, hxs⟩ := key len (Nat.le_refl _)
  exact ⟨xs, ⟨some a, cap, rfl, hl, rfl, by unfold maxLen at hm; omega, fun _ => ⟨a, rfl, hxs⟩⟩, hw0, hS⟩
inductive RzF (P : Program) : {α : Type} → Kd α → (α → Prop) → Nat → List Field → Prop
 | last {α : Type} {d : Kd α} {S : α → Prop} {f : Field} {off : Nat} : f.offset = off → P.cellsOf f.type = d.sz → Rz P d S f.type → RzF P d S off [f]
 | cons {α β : Type} {a : Kd α} {b : Kd β} {S : α → Prop} {U : β → Prop} {f : Field} {fs : List Field} {off : Nat} : f.offset = off → P.cellsOf f.type = a.sz → Rz P a S f.type → RzF P b U (off + a.sz) fs → RzF P (Kd.pair a b) (fun x => S x.1 ∧ U x.2) off (f :: fs)
theorem RzF.read {P : Program} {H : Type} {enc : TypeId × Value → H} {w : World} {base : Nat} {spare : Nat → Bool} {held : Bool} {cs : List Value} {α : Type} {d : Kd α} {S : α → Prop} {off : Nat} {fs : List Field} (h : RzF P d S off fs) :
  (∀ f ∈ fs, ∃ n x, DataW.trod enc P w base spare held n f.type ((cs.drop f.offset).take (P.cellsOf f.type)) = some x ∧ ∀ q ∈ x.1.weights P f.type, q ≤ 140737488351232) → ∃ y, d.K w y ((cs.drop off).take d.sz) ∧ S y := by
 induction h with
 | last ho hc hr =>
  intro hf
  obtain ⟨n, x, hx, hw⟩ := hf _ (List.mem_singleton.2 rfl)
  rw [ho, hc] at hx
  exact hr H enc w base spare held n _ x hx hw
 | @cons α β a b S U f fs off ho hc hr _ ih =>
  intro hf
  obtain ⟨n, x, hx, hw⟩ := hf _ List.mem_cons_self
  rw [ho, hc] at hx
  obtain ⟨y0, h0, s0⟩ := hr H enc w base spare held n _ x hx hw
  obtain ⟨y1, h1, s1⟩ := ih (fun g hg => hf g (List.mem_cons_of_mem _ hg))
  refine ⟨(y0, y1), ⟨_, _, ?_, h0, h1⟩, s0, s1⟩
  show List.take (a.sz + b.sz) _ = _
  rw [List.take_add, List.drop_drop]
theorem Rz.struct {P : Program} {α : Type} {d : Kd α} {S : α → Prop} {t : TypeId} {fs : Array Field} (hu : P.underlying t = some (.struct fs)) (hc : P.cellsOf t = d.sz) (hf : RzF P d S 0 fs.toList) : Rz P d S t := fun H enc w base spare held fuel cs x h hz => by
 obtain ⟨xs, n, _, rfl, hl, hlen, hx⟩ := DataW.trod_struct hu h
 have h2 := hf.read (enc := enc) (w := w) (base := base) (spare := spare) (held := held) (cs := cs) (fun f hm => by
  obtain ⟨i, hi, he⟩ := List.mem_iff_getElem.1 hm
  have h3 := hx i f (by rw [← he]; simp)
  have hi' : i < xs.length := by rw [hlen]; simpa using hi
  rw [List.getElem?_eq_getElem hi'] at h3
  refine ⟨n, _, h3, fun q hq => hz q ?_⟩
  simp only [DataW.weights, hu]
  refine DataW.weights_mem_each (j := i) (t := f.type) (d := xs[i].1) ?_ ?_ q hq
  ·rw [List.getElem?_map, List.getElem?_eq_getElem hi, he]; rfl
  ·rw [List.getElem?_map, List.getElem?_eq_getElem hi']; rfl)
 rw [List.drop_zero, List.take_of_length_le (by omega)] at h2
 exact h2
theorem Rz.iso {P : Program} {α β : Type} {d : Kd α} {S : α → Prop} {f : β → α} {t : TypeId} (h : Rz P d S t) (g : ∀ y, ∃ x, f x = y) : Rz P (Kd.iso d f) (fun x => S (f x)) t := fun H enc w base spare held fuel cs x hx hz => by
 obtain ⟨y, hy, hs⟩ := h H enc w base spare held fuel cs x hx hz
 obtain ⟨z, rfl⟩ := g y
 exact ⟨z, hy, hs⟩
theorem Rz.mono {P : Program} {α : Type} {d : Kd α} {S S' : α → Prop} {t : TypeId} (h : Rz P d S t) (g : ∀ x, S x → S' x) : Rz P d S' t := fun H enc w base spare held fuel cs x hx hz => by
 obtain ⟨y, hy, hs⟩ := h H enc w base spare held fuel cs x hx hz
 exact ⟨y, hy, g y hs⟩
theorem open_rowz {P : Program} {α : Type} {d : Kd α} {S : α → Prop} {t e : TypeId} {B : Nat} {H : Type} {enc : TypeId × Value → H} {w : World} {r : Reach} {b0 base : Nat} {spare : Nat → Bool} {held : Bool} {v : Value} {x : DataW H} {ps : List MemPlace} {ts : List TypeId} {ds : List (DataW H)} {j : Nat}
  (hsz : (DataW.weightsEach P ts ds).all (· ≤ reachBytes) = true) (ht : ts[j]? = some t) (hdj : ds[j]? = some x)
  (hu : P.underlying t = some (.slice e)) (hc : P.cellsOf e = d.sz) (hB : P.bytesOf e = B) (hd : Rz P d S e) (hval : Value.okWide P w r b0 t v) (h : DataW.Trod enc P w base spare held t v x ps) :
  ∃ (A : Option Addr) (c : Nat) (xs : List α), v = .slice A xs.length c ∧ xs.length ≤ c ∧ d.C w A xs.length xs ∧ xs.length * B ≤ 140737488351232 ∧ ∀ y ∈ xs, S y := by
 obtain ⟨a, len, cap, rfl⟩ := okWide_slice hu hval
 obtain ⟨fuel, hf⟩ := h
 obtain ⟨xs, ⟨A, c, hcs, hl, hC⟩, hb, hS⟩ := Rz.slice hu hc hB hd H enc w base spare held fuel _ _ hf (fun n hn => by
  have := List.all_eq_true.1 hsz _ (DataW.weights_mem_each ht hdj n hn)
  have h2 : n ≤ reachBytes := by simpa using this
  exact h2)
 simp [Value.cells] at hcs
 obtain ⟨rfl, rfl, rfl⟩ := hcs
 exact ⟨_, _, xs, rfl, hl, hC, hb, hS⟩
end Go.Proofs.YtamojbfmphainaaDoor.Pr
-- shrunk
/-
The kinds of the lower layers' arguments, with sizes: lists of texts, edits.
-/
namespace Go.Proofs.YtamojbfmphainaaDoor.Pr
open Go.RowKit Go.Proofs.YtamojbfmphainaaDoorW.PrintWords Go.Proofs.YtamojbfmphainaaDoorW.PrintLast Go.Proofs.YtamojbfmphainaaDoorW.PrintMore
theorem rz_string : Rz Tryd.prog Kd.string (fun s => s.size ≤ 140737488351232) 9 := Rz.string (by kernel_rfl)
theorem rz_strings : Rz Tryd.prog (Kd.slice 9 Kd.string) (fun xs => xs.length * 16 ≤ 140737488351232 ∧ ∀ y ∈ xs, y.size ≤ 140737488351232) 33 := Rz.slice (e := 9) (by kernel_rfl) (by kernel_rfl) (by kernel_rfl) rz_string
theorem rz_int : Rz Tryd.prog (Kd.int .i64) (fun n => (Lit.int .i64 n).wf = true) 3 := Rz.int (by kernel_rfl)
end Go.Proofs.YtamojbfmphainaaDoor.Pr
-- shrunk
/-
The kinds of layer 7's arguments, with sizes: hunks.
-/
namespace Go.Proofs.YtamojbfmphainaaDoor.Pr
open Go.RowKit Go.Proofs.YtamojbfmphainaaDoorW.PrintWords Go.Proofs.YtamojbfmphainaaDoorW.PrintLast Go.Proofs.YtamojbfmphainaaDoorW.PrintMore
theorem rz_hunk : Rz Tryd.prog k41 (fun h => ∀ s ∈ h.f4, s.size ≤ 140737488351232) 41 := by
 refine Rz.mono (Rz.iso (Rz.struct Tryd.underlying41 (by kernel_rfl) (.cons rfl (by kernel_rfl) rz_int (.cons rfl (by kernel_rfl) rz_int (.cons rfl (by kernel_rfl) rz_int (.cons rfl (by kernel_rfl) rz_int (.last rfl (by kernel_rfl) rz_strings)))))) (fun y => ⟨⟨y.1, y.2.1, y.2.2.1, y.2.2.2.1, y.2.2.2.2⟩, rfl⟩)) ?_
 intro x h
 exact h.2.2.2.2.2
end Go.Proofs.YtamojbfmphainaaDoor.Pr
-- shrunk
