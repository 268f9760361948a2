-- written by a program of this session's (a turned copy of the kit's printer); Lean checks it
import Derived.Test.YtebfopcihjadpaaD0
import Derived.Test.YtebfopcihjadpaaGAwake
import Derived.Test.YtebfopcihjadpaaD1b
import Derived.Test.YtebfopcihjadpaaD1c
import Derived.Test.YtebfopcihjadpaaD6a
import Derived.Test.YtebfopcihjadpaaD6b
namespace Go.Proofs.Ytebfopcihjadpaa.Pr
open Go.RowKit Go.Proofs.YtebfopcihjadpaaW.PrintWords Go.Proofs.YtebfopcihjadpaaW.PrintLast Go.Proofs.YtebfopcihjadpaaW.PrintMore
attribute [local go_sem] max2_int min2_int max_two min_two max_three min_three max_four min_four   -- for this text's walks alone
set_option linter.unusedVariables false
set_option linter.unusedSimpArgs false

/-! ### grapevinelaw04_DiffRight: function 5 -/
mutual
def grapevinelaw04_DiffRight.j0 : Nat → Int → List (S29) → Bool → Bool → Option (Bool)
  | 0, _, _, _, _ => none
  | k + 1, x0, x1, x5, x21 => if x21 = true then (some x5) else (grapevinelaw04_DiffRight.l0 k x0 x1 x5 0 0)
def grapevinelaw04_DiffRight.l0 : Nat → Int → List (S29) → Bool → Int → Int → Option (Bool)
  | 0, _, _, _, _, _ => none
  | k + 1, x0, x1, x5, x7, x8 => if x8 < (x1.length : Int) then (if 0 ≤ x8 then (grapevinelaw04_DiffRight.l0 k x0 x1 x5 (wrap64 ((wrap64 (x7 + (mx 0 ((rd_T29 x1 x8).f1)))) + (((rd_T29 x1 x8).f2).length : Int))) (wrap64 (x8 + 1))) else (none)) else (if x5 = true then ((diff_Right.f k x0 x1).bind fun t217 => ((grapevineref04_Right.f k x0 x1).bind fun t218 => (if (t217 == t218) = true then ((diff_Size.f k x1).bind fun t219 => (some (t219 == x7))) else (some false)))) else (some false))
end
def grapevinelaw04_DiffRight.f (k : Nat) (a0 : Int) (l1 : List (S29)) : Option (Bool) := (grapevinelaw04_awake.f).bind fun t213 => ((grapevineref04_Few.f k l1).bind fun t214 => (if t214 = true then (if a0 < (-1099511627776) then (grapevinelaw04_DiffRight.j0 k a0 l1 t213 true) else (grapevinelaw04_DiffRight.j0 k a0 l1 t213 (decide (a0 > 1099511627776)))) else (grapevinelaw04_DiffRight.j0 k a0 l1 t213 true)))
theorem grapevinelaw04_DiffRight.mono_l : ∀ k, (∀ y0 y1 y2 y3, LeO (grapevinelaw04_DiffRight.j0 k y0 y1 y2 y3) (grapevinelaw04_DiffRight.j0 (k + 1) y0 y1 y2 y3)) ∧ (∀ y0 y1 y2 y3 y4, LeO (grapevinelaw04_DiffRight.l0 k y0 y1 y2 y3 y4) (grapevinelaw04_DiffRight.l0 (k + 1) y0 y1 y2 y3 y4))
  | 0 => ⟨fun _ _ _ _ r h => by simp [grapevinelaw04_DiffRight.j0] at h, fun _ _ _ _ _ r h => by simp [grapevinelaw04_DiffRight.l0] at h⟩
  | k + 1 => by
    obtain ⟨ih0, ih1⟩ := grapevinelaw04_DiffRight.mono_l k
    refine ⟨?_, ?_⟩
    · intro y0 y1 y2 y3
      unfold grapevinelaw04_DiffRight.j0
      repeat' first
      | (with_reducible exact ih0 _ _ _ _)
      | (with_reducible exact ih1 _ _ _ _ _)
      | (with_reducible exact diff_Right.mono _ _ _)
      | (with_reducible exact diff_Size.mono _ _)
      | (with_reducible exact grapevineref04_Few.mono _ _)
      | (with_reducible exact grapevineref04_Right.mono _ _ _)
      | (with_reducible exact LeO.refl _)
      | (with_reducible exact LeO.none _)
      | (with_reducible refine LeO.ite ?_ ?_)
      | (with_reducible refine LeO.bind ?_ (fun _ => ?_))
      | exact ih0 _ _ _ _
      | exact ih1 _ _ _ _ _
      | exact diff_Right.mono _ _ _
      | exact diff_Size.mono _ _
      | exact grapevineref04_Few.mono _ _
      | exact grapevineref04_Right.mono _ _ _
      | exact LeO.none _
      | refine LeO.ite ?_ ?_
      | refine LeO.bind ?_ (fun _ => ?_)
    · intro y0 y1 y2 y3 y4
      unfold grapevinelaw04_DiffRight.l0
      repeat' first
      | (with_reducible exact ih0 _ _ _ _)
      | (with_reducible exact ih1 _ _ _ _ _)
      | (with_reducible exact diff_Right.mono _ _ _)
      | (with_reducible exact diff_Size.mono _ _)
      | (with_reducible exact grapevineref04_Few.mono _ _)
      | (with_reducible exact grapevineref04_Right.mono _ _ _)
      | (with_reducible exact LeO.refl _)
      | (with_reducible exact LeO.none _)
      | (with_reducible refine LeO.ite ?_ ?_)
      | (with_reducible refine LeO.bind ?_ (fun _ => ?_))
      | exact ih0 _ _ _ _
      | exact ih1 _ _ _ _ _
      | exact diff_Right.mono _ _ _
      | exact diff_Size.mono _ _
      | exact grapevineref04_Few.mono _ _
      | exact grapevineref04_Right.mono _ _ _
      | exact LeO.none _
      | refine LeO.ite ?_ ?_
      | refine LeO.bind ?_ (fun _ => ?_)
theorem grapevinelaw04_DiffRight.mono : ∀ a0 a1 k, LeO (grapevinelaw04_DiffRight.f k a0 a1) (grapevinelaw04_DiffRight.f (k + 1) a0 a1) := by
  intro a0 a1 k
  obtain ⟨ih0, ih1⟩ := grapevinelaw04_DiffRight.mono_l k
  unfold grapevinelaw04_DiffRight.f
  repeat' first
      | (with_reducible exact ih0 _ _ _ _)
      | (with_reducible exact ih1 _ _ _ _ _)
      | (with_reducible exact diff_Right.mono _ _ _)
      | (with_reducible exact diff_Size.mono _ _)
      | (with_reducible exact grapevineref04_Few.mono _ _)
      | (with_reducible exact grapevineref04_Right.mono _ _ _)
      | (with_reducible exact LeO.refl _)
      | (with_reducible exact LeO.none _)
      | (with_reducible refine LeO.ite ?_ ?_)
      | (with_reducible refine LeO.bind ?_ (fun _ => ?_))
      | exact ih0 _ _ _ _
      | exact ih1 _ _ _ _ _
      | exact diff_Right.mono _ _ _
      | exact diff_Size.mono _ _
      | exact grapevineref04_Few.mono _ _
      | exact grapevineref04_Right.mono _ _ _
      | exact LeO.none _
      | refine LeO.ite ?_ ?_
      | refine LeO.bind ?_ (fun _ => ?_)
set_option maxHeartbeats 8000000 in
set_option maxRecDepth 100000 in
theorem grapevinelaw04_DiffRight.calls (k : Nat) (a0 : Int) (A1 : Option Addr) (c1 : Nat) (l1 : List (S29)) (r : Bool) (w : World) (hrt_ : Aside0 (r = true)) (hr1 : Kd.C k29 w A1 l1.length l1) (hc1 : l1.length ≤ c1) (h : grapevinelaw04_DiffRight.f k a0 l1 = some r) :
    Calls Try.prog 5 #[.int .i64 a0, .slice A1 l1.length c1] w fun e w' => e = .returned (.bool r) ∧ Below w.heap.size w w' := by
  have HR1 := Aside0.mk hr1
  have HC1 := Aside0.mk hc1
  clear hr1 hc1
  have HB := Aside0.mk (Below.refl w.heap.size w)
  have H : ((grapevinelaw04_awake.f).bind fun t213 => ((grapevineref04_Few.f k l1).bind fun t214 => (if t214 = true then (if a0 < (-1099511627776) then (grapevinelaw04_DiffRight.j0 k a0 l1 t213 true) else (grapevinelaw04_DiffRight.j0 k a0 l1 t213 (decide (a0 > 1099511627776)))) else (grapevinelaw04_DiffRight.j0 k a0 l1 t213 true)))) = some r := h
  clear h
  replace H := Option.bind_eq_some_iff.mp H
  obtain ⟨t213, A30, H⟩ := H
  replace H : ((grapevineref04_Few.f k l1).bind fun t214 => (if t214 = true then (if a0 < (-1099511627776) then (grapevinelaw04_DiffRight.j0 k a0 l1 t213 true) else (grapevinelaw04_DiffRight.j0 k a0 l1 t213 (decide (a0 > 1099511627776)))) else (grapevinelaw04_DiffRight.j0 k a0 l1 t213 true))) = some r := H
  have A3 := Aside0.mk A30
  clear A30
  replace H := Option.bind_eq_some_iff.mp H
  obtain ⟨t214, A40, H⟩ := H
  replace H : (if t214 = true then (if a0 < (-1099511627776) then (grapevinelaw04_DiffRight.j0 k a0 l1 t213 true) else (grapevinelaw04_DiffRight.j0 k a0 l1 t213 (decide (a0 > 1099511627776)))) else (grapevinelaw04_DiffRight.j0 k a0 l1 t213 true)) = some r := H
  have A4 := Aside0.mk A40
  clear A40
  have HC5 := Aside0.mk H
  clear H
  go_enter Try.func5, Try.ntmps5
  go_upto_region 3 with (first | (go_at_call 13; (with_reducible refine (grapevinelaw04_awake.calls  t213 _ A3.out).mono ?_); rintro e w6 ⟨rfl, hb⟩; have n0_ := Aside0.mk (below_step (by repeat (first | (with_reducible first | exact HB.out | apply below_alloc | apply pw_below_drewN | apply below_drew1) | exact HB.out)) hb); clear HB; have HB := n0_; clear n0_; (try clear hb); (try clear hb2); (try clear hk); (try clear hi)) | (go_at_call 18; (with_reducible refine (grapevineref04_Few.calls k _ _ l1 t214 _ ?side1 ?side2 A4.out).mono ?_); (case side1 => repeat (first | exact (Kd.C_below HR1.out HB.out) | (with_reducible refine Kd.C_alloc ?_ _) | (with_reducible refine Kd.C_drewN ?_ _) | (with_reducible refine Kd.C_drew ?_))); (case side2 => exact HC1.out); rintro e w' ⟨rfl, ⟨nd, rfl⟩⟩; (try first | exact ⟨rfl, _, World.drewN_drewN _ _ _⟩ | exact ⟨rfl, _, Eq.trans (World.drewN_drewN _ _ _) (congrArg (World.drewN _) (Nat.add_assoc _ _ _))⟩)))
  repeat (go_quiet (first | (go_at_call 13; (with_reducible refine (grapevinelaw04_awake.calls  t213 _ A3.out).mono ?_); rintro e w6 ⟨rfl, hb⟩; have n0_ := Aside0.mk (below_step (by repeat (first | (with_reducible first | exact HB.out | apply below_alloc | apply pw_below_drewN | apply below_drew1) | exact HB.out)) hb); clear HB; have HB := n0_; clear n0_; (try clear hb); (try clear hb2); (try clear hk); (try clear hi)) | (go_at_call 18; (with_reducible refine (grapevineref04_Few.calls k _ _ l1 t214 _ ?side1 ?side2 A4.out).mono ?_); (case side1 => repeat (first | exact (Kd.C_below HR1.out HB.out) | (with_reducible refine Kd.C_alloc ?_ _) | (with_reducible refine Kd.C_drewN ?_ _) | (with_reducible refine Kd.C_drew ?_))); (case side2 => exact HC1.out); rintro e w' ⟨rfl, ⟨nd, rfl⟩⟩; (try first | exact ⟨rfl, _, World.drewN_drewN _ _ _⟩ | exact ⟨rfl, _, Eq.trans (World.drewN_drewN _ _ _) (congrArg (World.drewN _) (Nat.add_assoc _ _ _))⟩))); go_upto_region 3 with (first | (go_at_call 13; (with_reducible refine (grapevinelaw04_awake.calls  t213 _ A3.out).mono ?_); rintro e w6 ⟨rfl, hb⟩; have n0_ := Aside0.mk (below_step (by repeat (first | (with_reducible first | exact HB.out | apply below_alloc | apply pw_below_drewN | apply below_drew1) | exact HB.out)) hb); clear HB; have HB := n0_; clear n0_; (try clear hb); (try clear hb2); (try clear hk); (try clear hi)) | (go_at_call 18; (with_reducible refine (grapevineref04_Few.calls k _ _ l1 t214 _ ?side1 ?side2 A4.out).mono ?_); (case side1 => repeat (first | exact (Kd.C_below HR1.out HB.out) | (with_reducible refine Kd.C_alloc ?_ _) | (with_reducible refine Kd.C_drewN ?_ _) | (with_reducible refine Kd.C_drew ?_))); (case side2 => exact HC1.out); rintro e w' ⟨rfl, ⟨nd, rfl⟩⟩; (try first | exact ⟨rfl, _, World.drewN_drewN _ _ _⟩ | exact ⟨rfl, _, Eq.trans (World.drewN_drewN _ _ _) (congrArg (World.drewN _) (Nat.add_assoc _ _ _))⟩))))
  (try simp only [Act.put, List.setIfInBounds_toArray, List.set_cons_zero, List.set_cons_succ])
  go_cut [21] (fun v21 wc => ∃ (kq : Nat) (x21_4 : Bool), v21 = .bool x21_4 ∧ Aside0 (grapevinelaw04_DiffRight.j0 kq a0 l1 t213 x21_4 = some r) ∧ Aside0 (kq ≤ k) ∧ Aside0 (Below w.heap.size w wc))
  case first =>
    have H := HC5.out
    clear HC5
    by_cases c7 : t214 = true
    · subst c7
      have H1 : (if a0 < (-1099511627776) then (grapevinelaw04_DiffRight.j0 k a0 l1 t213 true) else (grapevinelaw04_DiffRight.j0 k a0 l1 t213 (decide (a0 > 1099511627776)))) = some r := by rw [if_pos rfl] at H; exact H
      clear H
      have H := H1
      clear H1
      by_cases c8 : a0 < (-1099511627776)
      · rw [if_pos c8] at H
        have c8b0 : decide (a0 < (-1099511627776)) = true := decide_eq_true c8
        clear c8
        (first | rw [c8b0] | (simp only [i64_w, i32_w]; rw [c8b0]) | skip)
        have H' := Aside0.mk H
        clear H
        go_wp2
        repeat (go_quiet (fail); try go_wp2)
        go_meet
        case rel => exact ⟨_, (true), (by first | rfl | (simp; done) | (simp [*]; done)), H', ⟨by first | omega | exact Nat.le_refl _⟩, ⟨by repeat (first | (with_reducible first | exact HB.out | apply below_alloc | apply pw_below_drewN | apply below_drew1) | exact HB.out)⟩⟩
      · rw [if_neg c8] at H
        have c8b0 : decide (a0 < (-1099511627776)) = false := decide_eq_false c8
        clear c8
        (first | rw [c8b0] | (simp only [i64_w, i32_w]; rw [c8b0]) | skip)
        have H' := Aside0.mk H
        clear H
        go_wp2
        repeat (go_quiet (fail); try go_wp2)
        go_meet
        case rel => exact ⟨_, (decide (a0 > 1099511627776)), (by first | rfl | (simp; done) | (simp [*]; done)), H', ⟨by first | omega | exact Nat.le_refl _⟩, ⟨by repeat (first | (with_reducible first | exact HB.out | apply below_alloc | apply pw_below_drewN | apply below_drew1) | exact HB.out)⟩⟩
    · replace c7 := Bool.eq_false_iff.mpr c7
      subst c7
      have H1 : (grapevinelaw04_DiffRight.j0 k a0 l1 t213 true) = some r := by rw [if_neg (show ¬ (false = true) by decide)] at H; exact H
      clear H
      have H := H1
      clear H1
      have H' := Aside0.mk H
      clear H
      go_wp2
      repeat (go_quiet (fail); try go_wp2)
      go_meet
      case rel => exact ⟨_, (true), (by first | rfl | (simp; done) | (simp [*]; done)), H', ⟨by first | omega | exact Nat.le_refl _⟩, ⟨by repeat (first | (with_reducible first | exact HB.out | apply below_alloc | apply pw_below_drewN | apply below_drew1) | exact HB.out)⟩⟩
  case rest =>
    clear HC5
    try clear c1
    try clear p2
    try clear c5
    try clear c7
    try clear c8
    try clear c8b0
    obtain ⟨kq, x21_4, rfl, HA, HJ4, HB⟩ := hcut
    cases kq with
    | zero => exact absurd HA.out (by simp [grapevinelaw04_DiffRight.j0])
    | succ kj4 =>
      have H := HA.out
      clear HA
      simp only [grapevinelaw04_DiffRight.j0] at H
      by_cases c9 : x21_4 = true
      · subst c9
        have H1 : (some t213) = some r := by rw [if_pos rfl] at H; exact H
        clear H
        have H := H1
        clear H1
        obtain rfl := Option.some.inj H
        go_wp2
        repeat (go_quiet (fail); try go_wp2)
        go_ret
        exact ⟨by first | rfl | (simp [errW_none, errW_some] <;> rfl) | (simp [*, errW_none, errW_some] <;> rfl), by repeat (first | (with_reducible first | exact HB.out | apply below_alloc | apply pw_below_drewN | apply below_drew1) | exact HB.out)⟩
      · replace c9 := Bool.eq_false_iff.mpr c9
        subst c9
        have H1 : (grapevinelaw04_DiffRight.l0 kj4 a0 l1 t213 0 0) = some r := by rw [if_neg (show ¬ (false = true) by decide)] at H; exact H
        clear H
        have H := H1
        clear H1
        have H' := Aside0.mk H
        clear H
        go_wp2
        repeat (go_quiet (fail); try go_wp2)
        go_loopg [7, 8] kj4 (fun kq v7 v8 w' => ∃ (x7_2 : Int) (x8_2 : Int), v7 = .int .i64 x7_2 ∧ v8 = .int .i64 x8_2 ∧ Aside0 (grapevinelaw04_DiffRight.l0 kq a0 l1 t213 x7_2 x8_2 = some r) ∧ Aside0 (kq ≤ kj4) ∧ Aside0 (Below w.heap.size w w'))
        case atStart => exact ⟨(0), (0), (by first | rfl | (simp; done) | (simp [*]; done)), (by first | rfl | (simp; done) | (simp [*]; done)), H', ⟨Nat.le_refl _⟩, ⟨by repeat (first | (with_reducible first | exact HB.out | apply below_alloc | apply pw_below_drewN | apply below_drew1) | exact HB.out)⟩⟩
        case round =>
          clear H'
          try clear c1
          try clear p2
          try clear c5
          try clear c7
          try clear c8
          try clear c8b0
          try clear c9
          try clear p2
          obtain ⟨x7_2, x8_2, rfl, rfl, HA, HK2, HB⟩ := hrel
          cases gk with
          | zero => exact absurd HA.out (by simp [grapevinelaw04_DiffRight.l0])
          | succ k2 =>
            have H := HA.out
            clear HA
            simp only [grapevinelaw04_DiffRight.l0] at H
            by_cases c10 : x8_2 < (l1.length : Int)
            · rw [if_pos c10] at H
              have c10b0 : decide (x8_2 < (l1.length : Int)) = true := decide_eq_true c10
              clear c10
              by_cases c11 : 0 ≤ x8_2
              · rw [if_pos c11] at H
                have c11b0 : decide (0 ≤ x8_2) = true := decide_eq_true c11
                clear c11
                obtain ⟨ji12, hji12⟩ : ∃ j_ : Int, (mx 0 ((rd_T29 l1 x8_2).f1)) = j_ := ⟨_, rfl⟩
                replace H : (grapevinelaw04_DiffRight.l0 k2 a0 l1 t213 (wrap64 ((wrap64 (x7_2 + (ji12))) + (((rd_T29 l1 x8_2).f2).length : Int))) (wrap64 (x8_2 + 1))) = some r := by first | (rw [hji12] at H; exact H) | (simp only [hji12] at H ⊢; exact H)
                have hji12_ : (if 0 < ((rd_T29 l1 x8_2).f1) then ((rd_T29 l1 x8_2).f1) else 0) = ji12 := hji12
                have H' := Aside0.mk H
                clear H
                have p215 : 0 ≤ (x8_2 : Int) := of_decide_eq_true (by first | (with_reducible assumption) | assumption)
                have q215 : x8_2 < (l1.length : Int) := of_decide_eq_true (by first | (with_reducible assumption) | assumption)
                obtain ⟨ad215, A215_2, c215_2, e215, hx215_0, hx215_1, hx215_2, hl215_2, hi215_2⟩ := at_T29 HR1.out x8_2 p215 q215
                cases e215
                replace hx215_0 := (HB.out.cell (World.block_lt_of_cell? w _ hx215_0)).trans hx215_0
                replace hx215_1 := (HB.out.cell (World.block_lt_of_cell? w _ hx215_1)).trans hx215_1
                replace hx215_2 := (HB.out.cell (World.block_lt_of_cell? w _ hx215_2)).trans hx215_2
                have HR215_2 := Aside0.mk hi215_2
                have HC215_2 := Aside0.mk hl215_2
                clear hi215_2 hl215_2
                replace p215 := eq_true p215
                replace q215 := eq_true q215
                have p216 : 0 ≤ (x8_2 : Int) := of_decide_eq_true (by first | (with_reducible assumption) | assumption)
                have q216 : x8_2 < (l1.length : Int) := of_decide_eq_true (by first | (with_reducible assumption) | assumption)
                obtain ⟨ad216, A216_2, c216_2, e216, hx216_0, hx216_1, hx216_2, hl216_2, hi216_2⟩ := at_T29 HR1.out x8_2 p216 q216
                obtain rfl : ad215 = ad216 := (by injection e216)
                replace hx216_0 := (HB.out.cell (World.block_lt_of_cell? w _ hx216_0)).trans hx216_0
                replace hx216_1 := (HB.out.cell (World.block_lt_of_cell? w _ hx216_1)).trans hx216_1
                replace hx216_2 := (HB.out.cell (World.block_lt_of_cell? w _ hx216_2)).trans hx216_2
                have HR216_2 := Aside0.mk hi216_2
                have HC216_2 := Aside0.mk hl216_2
                clear hi216_2 hl216_2
                replace p216 := eq_true p216
                replace q216 := eq_true q216
                have ea_ := Option.some.inj (hx215_2.symm.trans hx216_2)
                injection ea_ with ea_ en_ ec_
                subst ea_
                subst ec_
                clear en_
                go_wp2
                repeat (go_quiet (fail); try go_wp2)
                go_roundg k2
                case measure => have := HJ4.out; have := HK2.out; omega
                case rel => exact ⟨(wrap64 ((wrap64 (x7_2 + (ji12))) + (((rd_T29 l1 x8_2).f2).length : Int))), (wrap64 (x8_2 + 1)), (by first | rfl | (simp; done) | (simp only [← hji12] <;> (first | rfl | simp)) | (simp [*]; done)), (by first | rfl | (simp; done) | (simp [*]; done)), H', ⟨by have := HJ4.out; have := HK2.out; omega⟩, ⟨by repeat (first | (with_reducible first | exact HB.out | apply below_alloc | apply pw_below_drewN | apply below_drew1) | exact HB.out)⟩⟩
              · rw [if_neg c11] at H
                exact absurd H (by simp)
            · rw [if_neg c10] at H
              have c10b0 : decide (x8_2 < (l1.length : Int)) = false := decide_eq_false c10
              clear c10
              by_cases c13 : t213 = true
              · subst c13
                have H1 : ((diff_Right.f k2 a0 l1).bind fun t217 => ((grapevineref04_Right.f k2 a0 l1).bind fun t218 => (if (t217 == t218) = true then ((diff_Size.f k2 l1).bind fun t219 => (some (t219 == x7_2))) else (some false)))) = some r := by rw [if_pos rfl] at H; exact H
                clear H
                have H := H1
                clear H1
                replace H := Option.bind_eq_some_iff.mp H
                obtain ⟨t217, A140, H⟩ := H
                replace H : ((grapevineref04_Right.f k2 a0 l1).bind fun t218 => (if (t217 == t218) = true then ((diff_Size.f k2 l1).bind fun t219 => (some (t219 == x7_2))) else (some false))) = some r := H
                have A14 := Aside0.mk A140
                clear A140
                replace H := Option.bind_eq_some_iff.mp H
                obtain ⟨t218, A150, H⟩ := H
                replace H : (if (t217 == t218) = true then ((diff_Size.f k2 l1).bind fun t219 => (some (t219 == x7_2))) else (some false)) = some r := H
                have A15 := Aside0.mk A150
                clear A150
                by_cases c16 : (t217 == t218) = true
                · rw [if_pos c16] at H
                  have c16b0 : (t217 == t218) = true := c16
                  (try (have c16b1 : decide (t217 = t218) = true := by simpa using c16))
                  (try (have c16b2 : (t217 == t218) = true := by simpa using c16))
                  clear c16
                  replace H := Option.bind_eq_some_iff.mp H
                  obtain ⟨t219, A170, H⟩ := H
                  replace H : (some (t219 == x7_2)) = some r := H
                  have A17 := Aside0.mk A170
                  clear A170
                  obtain rfl := Option.some.inj H
                  go_wp2_with (first | (go_at_call 19; (with_reducible refine (diff_Right.calls k2 a0 _ _ l1 t217 _ ?side1 ?side2 A14.out).mono ?_); (case side1 => repeat (first | exact (Kd.C_below HR1.out HB.out) | (with_reducible refine Kd.C_alloc ?_ _) | (with_reducible refine Kd.C_drewN ?_ _) | (with_reducible refine Kd.C_drew ?_))); (case side2 => exact HC1.out); rintro e w18 ⟨rfl, hb⟩; have n0_ := Aside0.mk (below_step (by repeat (first | (with_reducible first | exact HB.out | apply below_alloc | apply pw_below_drewN | apply below_drew1) | exact HB.out)) hb); clear HB; have HB := n0_; clear n0_; (try clear hb); (try clear hb2); (try clear hk); (try clear hi)) | (go_at_call 20; (with_reducible refine (grapevineref04_Right.calls k2 a0 _ _ l1 t218 _ ?side1 ?side2 A15.out).mono ?_); (case side1 => repeat (first | exact (Kd.C_below HR1.out HB.out) | (with_reducible refine Kd.C_alloc ?_ _) | (with_reducible refine Kd.C_drewN ?_ _) | (with_reducible refine Kd.C_drew ?_))); (case side2 => exact HC1.out); rintro e w' ⟨rfl, ⟨nd, rfl⟩⟩; (try first | exact ⟨rfl, _, World.drewN_drewN _ _ _⟩ | exact ⟨rfl, _, Eq.trans (World.drewN_drewN _ _ _) (congrArg (World.drewN _) (Nat.add_assoc _ _ _))⟩)) | (go_at_call 21; (with_reducible refine (diff_Size.calls k2 _ _ l1 t219 _ ?side1 ?side2 A17.out).mono ?_); (case side1 => repeat (first | exact (Kd.C_below HR1.out (by repeat (first | (with_reducible first | exact HB.out | apply below_alloc | apply pw_below_drewN | apply below_drew1) | exact HB.out))) | (with_reducible refine Kd.C_alloc ?_ _) | (with_reducible refine Kd.C_drewN ?_ _) | (with_reducible refine Kd.C_drew ?_))); (case side2 => exact HC1.out); rintro e w19 ⟨rfl, hb⟩; have n0_ := Aside0.mk (below_step (by repeat (first | (with_reducible first | exact HB.out | apply below_alloc | apply pw_below_drewN | apply below_drew1) | exact HB.out)) hb); clear HB; have HB := n0_; clear n0_; (try clear hb); (try clear hb2); (try clear hk); (try clear hi)))
                  repeat (go_quiet (first | (go_at_call 19; (with_reducible refine (diff_Right.calls k2 a0 _ _ l1 t217 _ ?side1 ?side2 A14.out).mono ?_); (case side1 => repeat (first | exact (Kd.C_below HR1.out HB.out) | (with_reducible refine Kd.C_alloc ?_ _) | (with_reducible refine Kd.C_drewN ?_ _) | (with_reducible refine Kd.C_drew ?_))); (case side2 => exact HC1.out); rintro e w18 ⟨rfl, hb⟩; have n0_ := Aside0.mk (below_step (by repeat (first | (with_reducible first | exact HB.out | apply below_alloc | apply pw_below_drewN | apply below_drew1) | exact HB.out)) hb); clear HB; have HB := n0_; clear n0_; (try clear hb); (try clear hb2); (try clear hk); (try clear hi)) | (go_at_call 20; (with_reducible refine (grapevineref04_Right.calls k2 a0 _ _ l1 t218 _ ?side1 ?side2 A15.out).mono ?_); (case side1 => repeat (first | exact (Kd.C_below HR1.out HB.out) | (with_reducible refine Kd.C_alloc ?_ _) | (with_reducible refine Kd.C_drewN ?_ _) | (with_reducible refine Kd.C_drew ?_))); (case side2 => exact HC1.out); rintro e w' ⟨rfl, ⟨nd, rfl⟩⟩; (try first | exact ⟨rfl, _, World.drewN_drewN _ _ _⟩ | exact ⟨rfl, _, Eq.trans (World.drewN_drewN _ _ _) (congrArg (World.drewN _) (Nat.add_assoc _ _ _))⟩)) | (go_at_call 21; (with_reducible refine (diff_Size.calls k2 _ _ l1 t219 _ ?side1 ?side2 A17.out).mono ?_); (case side1 => repeat (first | exact (Kd.C_below HR1.out (by repeat (first | (with_reducible first | exact HB.out | apply below_alloc | apply pw_below_drewN | apply below_drew1) | exact HB.out))) | (with_reducible refine Kd.C_alloc ?_ _) | (with_reducible refine Kd.C_drewN ?_ _) | (with_reducible refine Kd.C_drew ?_))); (case side2 => exact HC1.out); rintro e w19 ⟨rfl, hb⟩; have n0_ := Aside0.mk (below_step (by repeat (first | (with_reducible first | exact HB.out | apply below_alloc | apply pw_below_drewN | apply below_drew1) | exact HB.out)) hb); clear HB; have HB := n0_; clear n0_; (try clear hb); (try clear hb2); (try clear hk); (try clear hi))); try go_wp2_with (first | (go_at_call 19; (with_reducible refine (diff_Right.calls k2 a0 _ _ l1 t217 _ ?side1 ?side2 A14.out).mono ?_); (case side1 => repeat (first | exact (Kd.C_below HR1.out HB.out) | (with_reducible refine Kd.C_alloc ?_ _) | (with_reducible refine Kd.C_drewN ?_ _) | (with_reducible refine Kd.C_drew ?_))); (case side2 => exact HC1.out); rintro e w18 ⟨rfl, hb⟩; have n0_ := Aside0.mk (below_step (by repeat (first | (with_reducible first | exact HB.out | apply below_alloc | apply pw_below_drewN | apply below_drew1) | exact HB.out)) hb); clear HB; have HB := n0_; clear n0_; (try clear hb); (try clear hb2); (try clear hk); (try clear hi)) | (go_at_call 20; (with_reducible refine (grapevineref04_Right.calls k2 a0 _ _ l1 t218 _ ?side1 ?side2 A15.out).mono ?_); (case side1 => repeat (first | exact (Kd.C_below HR1.out HB.out) | (with_reducible refine Kd.C_alloc ?_ _) | (with_reducible refine Kd.C_drewN ?_ _) | (with_reducible refine Kd.C_drew ?_))); (case side2 => exact HC1.out); rintro e w' ⟨rfl, ⟨nd, rfl⟩⟩; (try first | exact ⟨rfl, _, World.drewN_drewN _ _ _⟩ | exact ⟨rfl, _, Eq.trans (World.drewN_drewN _ _ _) (congrArg (World.drewN _) (Nat.add_assoc _ _ _))⟩)) | (go_at_call 21; (with_reducible refine (diff_Size.calls k2 _ _ l1 t219 _ ?side1 ?side2 A17.out).mono ?_); (case side1 => repeat (first | exact (Kd.C_below HR1.out (by repeat (first | (with_reducible first | exact HB.out | apply below_alloc | apply pw_below_drewN | apply below_drew1) | exact HB.out))) | (with_reducible refine Kd.C_alloc ?_ _) | (with_reducible refine Kd.C_drewN ?_ _) | (with_reducible refine Kd.C_drew ?_))); (case side2 => exact HC1.out); rintro e w19 ⟨rfl, hb⟩; have n0_ := Aside0.mk (below_step (by repeat (first | (with_reducible first | exact HB.out | apply below_alloc | apply pw_below_drewN | apply below_drew1) | exact HB.out)) hb); clear HB; have HB := n0_; clear n0_; (try clear hb); (try clear hb2); (try clear hk); (try clear hi))))
                  go_ret
                  exact ⟨by first | rfl | (simp [errW_none, errW_some] <;> rfl) | (simp [*, errW_none, errW_some] <;> rfl), by repeat (first | (with_reducible first | exact HB.out | apply below_alloc | apply pw_below_drewN | apply below_drew1) | exact HB.out)⟩
                · rw [if_neg c16] at H
                  have c16b0 : (t217 == t218) = false := by simpa using c16
                  (try (have c16b1 : decide (t217 = t218) = false := by simpa using c16))
                  (try (have c16b2 : (t217 == t218) = false := by simpa using c16))
                  (try (have c16b3 : ¬ (t217 = t218) := by simpa using c16))
                  clear c16
                  exact absurd (H.trans (congrArg some hrt_.out)) (by simp)
              · replace c13 := Bool.eq_false_iff.mpr c13
                subst c13
                have H1 : (some false) = some r := by rw [if_neg (show ¬ (false = true) by decide)] at H; exact H
                clear H
                have H := H1
                clear H1
                exact absurd (H.trans (congrArg some hrt_.out)) (by simp)

end Go.Proofs.Ytebfopcihjadpaa.Pr
