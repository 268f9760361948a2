-- written by a program of this session's (a turned copy of the kit's printer); Lean checks it
import Derived.Test.YtebfopcihjadpaaD0
namespace Go.Proofs.Ytebfopcihjadpaa.Pr
open Go.RowKit Go.Proofs.YtebfopcihjadpaaW.PrintWords Go.Proofs.YtebfopcihjadpaaW.PrintLast Go.Proofs.YtebfopcihjadpaaW.PrintMore
attribute [local go_sem] max2_int min2_int max_two min_two max_three min_three max_four min_four   -- for this text's walks alone
set_option linter.unusedVariables false
set_option linter.unusedSimpArgs false

/-! ### grapevineref04_Right: function 20 -/
mutual
def grapevineref04_Right.l0 : Nat → Int → List (S29) → Int → Option (Bool)
  | 0, _, _, _ => none
  | k + 1, x0, x1, x5 => if x5 < (x1.length : Int) then (if 0 ≤ x5 then (if ((rd_T29 x1 x5).f0) < 0 then (grapevineref04_Right.j1 k x0 x1 x5 true) else (if ((rd_T29 x1 x5).f1) < 0 then (grapevineref04_Right.j1 k x0 x1 x5 true) else (if ((rd_T29 x1 x5).f0) > x0 then (grapevineref04_Right.j1 k x0 x1 x5 true) else (grapevineref04_Right.j1 k x0 x1 x5 (decide (((rd_T29 x1 x5).f1) > (wrap64 (x0 - ((rd_T29 x1 x5).f0))))))))) else (none)) else (some true)
def grapevineref04_Right.j1 : Nat → Int → List (S29) → Int → Bool → Option (Bool)
  | 0, _, _, _, _ => none
  | k + 1, x0, x1, x5, x49 => if x49 = true then (some false) else (if 0 ≤ x5 then (if x5 < (x1.length : Int) then (if ((rd_T29 x1 x5).f1) = 0 then (grapevineref04_Right.j2 k x0 x1 x5 ((((rd_T29 x1 x5).f2).length : Int) == 0)) else (grapevineref04_Right.j2 k x0 x1 x5 false)) else (none)) else (none))
def grapevineref04_Right.j2 : Nat → Int → List (S29) → Int → Bool → Option (Bool)
  | 0, _, _, _, _ => none
  | k + 1, x0, x1, x5, x64 => if x64 = true then (some false) else (if x5 > 0 then (if 0 ≤ x5 then (if x5 < (x1.length : Int) then (if 0 ≤ (wrap64 (x5 - 1)) then (if (wrap64 (x5 - 1)) < (x1.length : Int) then (if ((rd_T29 x1 x5).f0) ≤ (wrap64 (((rd_T29 x1 (wrap64 (x5 - 1))).f0) + ((rd_T29 x1 (wrap64 (x5 - 1))).f1))) then (some false) else (grapevineref04_Right.l0 k x0 x1 (wrap64 (x5 + 1)))) else (none)) else (none)) else (none)) else (none)) else (grapevineref04_Right.l0 k x0 x1 (wrap64 (x5 + 1))))
end
def grapevineref04_Right.f (k : Nat) (a0 : Int) (l1 : List (S29)) : Option (Bool) := grapevineref04_Right.l0 k a0 l1 0
theorem grapevineref04_Right.mono_l : ∀ k, (∀ y0 y1 y2, LeO (grapevineref04_Right.l0 k y0 y1 y2) (grapevineref04_Right.l0 (k + 1) y0 y1 y2)) ∧ (∀ y0 y1 y2 y3, LeO (grapevineref04_Right.j1 k y0 y1 y2 y3) (grapevineref04_Right.j1 (k + 1) y0 y1 y2 y3)) ∧ (∀ y0 y1 y2 y3, LeO (grapevineref04_Right.j2 k y0 y1 y2 y3) (grapevineref04_Right.j2 (k + 1) y0 y1 y2 y3))
  | 0 => ⟨fun _ _ _ r h => by simp [grapevineref04_Right.l0] at h, fun _ _ _ _ r h => by simp [grapevineref04_Right.j1] at h, fun _ _ _ _ r h => by simp [grapevineref04_Right.j2] at h⟩
  | k + 1 => by
    obtain ⟨ih0, ih1, ih2⟩ := grapevineref04_Right.mono_l k
    refine ⟨?_, ?_, ?_⟩
    · intro y0 y1 y2
      unfold grapevineref04_Right.l0
      repeat' first
      | (with_reducible exact ih0 _ _ _)
      | (with_reducible exact ih1 _ _ _ _)
      | (with_reducible exact ih2 _ _ _ _)
      | (with_reducible exact LeO.refl _)
      | (with_reducible exact LeO.none _)
      | (with_reducible refine LeO.ite ?_ ?_)
      | (with_reducible refine LeO.bind ?_ (fun _ => ?_))
      | exact ih0 _ _ _
      | exact ih1 _ _ _ _
      | exact ih2 _ _ _ _
      | exact LeO.none _
      | refine LeO.ite ?_ ?_
      | refine LeO.bind ?_ (fun _ => ?_)
    · intro y0 y1 y2 y3
      unfold grapevineref04_Right.j1
      repeat' first
      | (with_reducible exact ih0 _ _ _)
      | (with_reducible exact ih1 _ _ _ _)
      | (with_reducible exact ih2 _ _ _ _)
      | (with_reducible exact LeO.refl _)
      | (with_reducible exact LeO.none _)
      | (with_reducible refine LeO.ite ?_ ?_)
      | (with_reducible refine LeO.bind ?_ (fun _ => ?_))
      | exact ih0 _ _ _
      | exact ih1 _ _ _ _
      | exact ih2 _ _ _ _
      | exact LeO.none _
      | refine LeO.ite ?_ ?_
      | refine LeO.bind ?_ (fun _ => ?_)
    · intro y0 y1 y2 y3
      unfold grapevineref04_Right.j2
      repeat' first
      | (with_reducible exact ih0 _ _ _)
      | (with_reducible exact ih1 _ _ _ _)
      | (with_reducible exact ih2 _ _ _ _)
      | (with_reducible exact LeO.refl _)
      | (with_reducible exact LeO.none _)
      | (with_reducible refine LeO.ite ?_ ?_)
      | (with_reducible refine LeO.bind ?_ (fun _ => ?_))
      | exact ih0 _ _ _
      | exact ih1 _ _ _ _
      | exact ih2 _ _ _ _
      | exact LeO.none _
      | refine LeO.ite ?_ ?_
      | refine LeO.bind ?_ (fun _ => ?_)
theorem grapevineref04_Right.mono : ∀ a0 a1 k, LeO (grapevineref04_Right.f k a0 a1) (grapevineref04_Right.f (k + 1) a0 a1) := by
  intro a0 a1 k
  obtain ⟨ih0, ih1, ih2⟩ := grapevineref04_Right.mono_l k
  unfold grapevineref04_Right.f
  repeat' first
      | (with_reducible exact ih0 _ _ _)
      | (with_reducible exact ih1 _ _ _ _)
      | (with_reducible exact ih2 _ _ _ _)
      | (with_reducible exact LeO.refl _)
      | (with_reducible exact LeO.none _)
      | (with_reducible refine LeO.ite ?_ ?_)
      | (with_reducible refine LeO.bind ?_ (fun _ => ?_))
      | exact ih0 _ _ _
      | exact ih1 _ _ _ _
      | exact ih2 _ _ _ _
      | exact LeO.none _
      | refine LeO.ite ?_ ?_
      | refine LeO.bind ?_ (fun _ => ?_)
set_option maxHeartbeats 8000000 in
set_option maxRecDepth 100000 in
theorem grapevineref04_Right.calls (k : Nat) (a0 : Int) (A1 : Option Addr) (c1 : Nat) (l1 : List (S29)) (r : Bool) (w : World) (hr1 : Kd.C k29 w A1 l1.length l1) (hc1 : l1.length ≤ c1) (h : grapevineref04_Right.f k a0 l1 = some r) :
    Calls Try.prog 20 #[.int .i64 a0, .slice A1 l1.length c1] w fun e w' => e = .returned (.bool r) ∧ Drawn0 w w' := by
  have HR1 := Aside0.mk hr1
  have HC1 := Aside0.mk hc1
  clear hr1 hc1
  have H : (grapevineref04_Right.l0 k a0 l1 0) = some r := h
  clear h
  have H' := Aside0.mk H
  clear H
  go_enter Try.func20, Try.ntmps20
  go_wp2
  repeat (go_quiet (fail); try go_wp2)
  go_loopg [5] k (fun kq v5 w' => ∃ (x5_1 : Int), v5 = .int .i64 x5_1 ∧ Aside0 (grapevineref04_Right.l0 kq a0 l1 x5_1 = some r) ∧ Aside0 (kq ≤ k) ∧ Drawn0 w w')
  case atStart => exact ⟨(0), (by first | rfl | (simp; done) | (simp [*]; done)), H', ⟨Nat.le_refl _⟩, by repeat (first | exact Drawn0.refl _ | apply Drawn0.step)⟩
  case round =>
    clear H'
    try clear c1
    try clear c2
    try clear p2
    obtain ⟨x5_1, rfl, HA, HK1, ⟨m1, rfl⟩⟩ := hrel
    cases gk with
    | zero => exact absurd HA.out (by simp [grapevineref04_Right.l0])
    | succ k1 =>
      have H := HA.out
      clear HA
      simp only [grapevineref04_Right.l0] at H
      by_cases c3 : x5_1 < (l1.length : Int)
      · rw [if_pos c3] at H
        have c3b0 : decide (x5_1 < (l1.length : Int)) = true := decide_eq_true c3
        clear c3
        have HC4 := Aside0.mk H
        clear H
        go_upto_region 4 with (fail)
        repeat (go_quiet (fail); go_upto_region 4 with (fail))
        go_cut [49] (fun v49 wc => ∃ (kq : Nat) (x49_3 : Bool), v49 = .bool x49_3 ∧ Aside0 (grapevineref04_Right.j1 kq a0 l1 x5_1 x49_3 = some r) ∧ Aside0 (kq ≤ k1) ∧ Drawn0 w wc)
        case first =>
          have H := HC4.out
          clear HC4
          by_cases c5 : 0 ≤ x5_1
          · rw [if_pos c5] at H
            have c5b0 : decide (0 ≤ x5_1) = true := decide_eq_true c5
            clear c5
            (first | rw [c5b0] | (simp only [i64_w, i32_w]; rw [c5b0]) | skip)
            by_cases c6 : ((rd_T29 l1 x5_1).f0) < 0
            · rw [if_pos c6] at H
              have c6b0 : decide (((rd_T29 l1 x5_1).f0) < 0) = true := decide_eq_true c6
              clear c6
              have H' := Aside0.mk H
              clear H
              have p203 : 0 ≤ (x5_1 : Int) := of_decide_eq_true (by first | (with_reducible assumption) | assumption)
              have q203 : x5_1 < (l1.length : Int) := of_decide_eq_true (by first | (with_reducible assumption) | assumption)
              obtain ⟨ad203, A203_2, c203_2, e203, hx203_0, hx203_1, hx203_2, hl203_2, hi203_2⟩ := at_T29 HR1.out x5_1 p203 q203
              cases e203
              have HR203_2 := Aside0.mk hi203_2
              have HC203_2 := Aside0.mk hl203_2
              clear hi203_2 hl203_2
              replace p203 := eq_true p203
              replace q203 := eq_true q203
              go_wp2
              repeat (go_quiet (fail); try go_wp2)
              go_meet
              case rel => exact ⟨_, (true), (by first | rfl | (simp; done) | (simp [*]; done)), H', ⟨by have := HK1.out; first | omega | exact Nat.le_refl _⟩, by repeat (first | exact Drawn0.refl _ | apply Drawn0.step)⟩
            · rw [if_neg c6] at H
              have c6b0 : decide (((rd_T29 l1 x5_1).f0) < 0) = false := decide_eq_false c6
              clear c6
              by_cases c7 : ((rd_T29 l1 x5_1).f1) < 0
              · rw [if_pos c7] at H
                have c7b0 : decide (((rd_T29 l1 x5_1).f1) < 0) = true := decide_eq_true c7
                clear c7
                have H' := Aside0.mk H
                clear H
                have p203 : 0 ≤ (x5_1 : Int) := of_decide_eq_true (by first | (with_reducible assumption) | assumption)
                have q203 : x5_1 < (l1.length : Int) := of_decide_eq_true (by first | (with_reducible assumption) | assumption)
                obtain ⟨ad203, A203_2, c203_2, e203, hx203_0, hx203_1, hx203_2, hl203_2, hi203_2⟩ := at_T29 HR1.out x5_1 p203 q203
                cases e203
                have HR203_2 := Aside0.mk hi203_2
                have HC203_2 := Aside0.mk hl203_2
                clear hi203_2 hl203_2
                replace p203 := eq_true p203
                replace q203 := eq_true q203
                have p204 : 0 ≤ (x5_1 : Int) := of_decide_eq_true (by first | (with_reducible assumption) | assumption)
                have q204 : x5_1 < (l1.length : Int) := of_decide_eq_true (by first | (with_reducible assumption) | assumption)
                obtain ⟨ad204, A204_2, c204_2, e204, hx204_0, hx204_1, hx204_2, hl204_2, hi204_2⟩ := at_T29 HR1.out x5_1 p204 q204
                obtain rfl : ad203 = ad204 := (by injection e204)
                have HR204_2 := Aside0.mk hi204_2
                have HC204_2 := Aside0.mk hl204_2
                clear hi204_2 hl204_2
                replace p204 := eq_true p204
                replace q204 := eq_true q204
                have ea_ := Option.some.inj (hx203_2.symm.trans hx204_2)
                injection ea_ with ea_ en_ ec_
                subst ea_
                subst ec_
                clear en_
                go_wp2
                repeat (go_quiet (fail); try go_wp2)
                go_meet
                case rel => exact ⟨_, (true), (by first | rfl | (simp; done) | (simp [*]; done)), H', ⟨by have := HK1.out; first | omega | exact Nat.le_refl _⟩, by repeat (first | exact Drawn0.refl _ | apply Drawn0.step)⟩
              · rw [if_neg c7] at H
                have c7b0 : decide (((rd_T29 l1 x5_1).f1) < 0) = false := decide_eq_false c7
                clear c7
                by_cases c8 : ((rd_T29 l1 x5_1).f0) > a0
                · rw [if_pos c8] at H
                  have c8b0 : decide (a0 < ((rd_T29 l1 x5_1).f0)) = true := decide_eq_true c8
                  clear c8
                  have H' := Aside0.mk H
                  clear H
                  have p203 : 0 ≤ (x5_1 : Int) := of_decide_eq_true (by first | (with_reducible assumption) | assumption)
                  have q203 : x5_1 < (l1.length : Int) := of_decide_eq_true (by first | (with_reducible assumption) | assumption)
                  obtain ⟨ad203, A203_2, c203_2, e203, hx203_0, hx203_1, hx203_2, hl203_2, hi203_2⟩ := at_T29 HR1.out x5_1 p203 q203
                  cases e203
                  have HR203_2 := Aside0.mk hi203_2
                  have HC203_2 := Aside0.mk hl203_2
                  clear hi203_2 hl203_2
                  replace p203 := eq_true p203
                  replace q203 := eq_true q203
                  have p204 : 0 ≤ (x5_1 : Int) := of_decide_eq_true (by first | (with_reducible assumption) | assumption)
                  have q204 : x5_1 < (l1.length : Int) := of_decide_eq_true (by first | (with_reducible assumption) | assumption)
                  obtain ⟨ad204, A204_2, c204_2, e204, hx204_0, hx204_1, hx204_2, hl204_2, hi204_2⟩ := at_T29 HR1.out x5_1 p204 q204
                  obtain rfl : ad203 = ad204 := (by injection e204)
                  have HR204_2 := Aside0.mk hi204_2
                  have HC204_2 := Aside0.mk hl204_2
                  clear hi204_2 hl204_2
                  replace p204 := eq_true p204
                  replace q204 := eq_true q204
                  have ea_ := Option.some.inj (hx203_2.symm.trans hx204_2)
                  injection ea_ with ea_ en_ ec_
                  subst ea_
                  subst ec_
                  clear en_
                  have p205 : 0 ≤ (x5_1 : Int) := of_decide_eq_true (by first | (with_reducible assumption) | assumption)
                  have q205 : x5_1 < (l1.length : Int) := of_decide_eq_true (by first | (with_reducible assumption) | assumption)
                  obtain ⟨ad205, A205_2, c205_2, e205, hx205_0, hx205_1, hx205_2, hl205_2, hi205_2⟩ := at_T29 HR1.out x5_1 p205 q205
                  obtain rfl : ad203 = ad205 := (by injection e205)
                  have HR205_2 := Aside0.mk hi205_2
                  have HC205_2 := Aside0.mk hl205_2
                  clear hi205_2 hl205_2
                  replace p205 := eq_true p205
                  replace q205 := eq_true q205
                  have ea_ := Option.some.inj (hx203_2.symm.trans hx205_2)
                  injection ea_ with ea_ en_ ec_
                  subst ea_
                  subst ec_
                  clear en_
                  go_wp2
                  repeat (go_quiet (fail); try go_wp2)
                  go_meet
                  case rel => exact ⟨_, (true), (by first | rfl | (simp; done) | (simp [*]; done)), H', ⟨by have := HK1.out; first | omega | exact Nat.le_refl _⟩, by repeat (first | exact Drawn0.refl _ | apply Drawn0.step)⟩
                · rw [if_neg c8] at H
                  have c8b0 : decide (a0 < ((rd_T29 l1 x5_1).f0)) = false := decide_eq_false c8
                  clear c8
                  have H' := Aside0.mk H
                  clear H
                  have p203 : 0 ≤ (x5_1 : Int) := of_decide_eq_true (by first | (with_reducible assumption) | assumption)
                  have q203 : x5_1 < (l1.length : Int) := of_decide_eq_true (by first | (with_reducible assumption) | assumption)
                  obtain ⟨ad203, A203_2, c203_2, e203, hx203_0, hx203_1, hx203_2, hl203_2, hi203_2⟩ := at_T29 HR1.out x5_1 p203 q203
                  cases e203
                  have HR203_2 := Aside0.mk hi203_2
                  have HC203_2 := Aside0.mk hl203_2
                  clear hi203_2 hl203_2
                  replace p203 := eq_true p203
                  replace q203 := eq_true q203
                  have p204 : 0 ≤ (x5_1 : Int) := of_decide_eq_true (by first | (with_reducible assumption) | assumption)
                  have q204 : x5_1 < (l1.length : Int) := of_decide_eq_true (by first | (with_reducible assumption) | assumption)
                  obtain ⟨ad204, A204_2, c204_2, e204, hx204_0, hx204_1, hx204_2, hl204_2, hi204_2⟩ := at_T29 HR1.out x5_1 p204 q204
                  obtain rfl : ad203 = ad204 := (by injection e204)
                  have HR204_2 := Aside0.mk hi204_2
                  have HC204_2 := Aside0.mk hl204_2
                  clear hi204_2 hl204_2
                  replace p204 := eq_true p204
                  replace q204 := eq_true q204
                  have ea_ := Option.some.inj (hx203_2.symm.trans hx204_2)
                  injection ea_ with ea_ en_ ec_
                  subst ea_
                  subst ec_
                  clear en_
                  have p205 : 0 ≤ (x5_1 : Int) := of_decide_eq_true (by first | (with_reducible assumption) | assumption)
                  have q205 : x5_1 < (l1.length : Int) := of_decide_eq_true (by first | (with_reducible assumption) | assumption)
                  obtain ⟨ad205, A205_2, c205_2, e205, hx205_0, hx205_1, hx205_2, hl205_2, hi205_2⟩ := at_T29 HR1.out x5_1 p205 q205
                  obtain rfl : ad203 = ad205 := (by injection e205)
                  have HR205_2 := Aside0.mk hi205_2
                  have HC205_2 := Aside0.mk hl205_2
                  clear hi205_2 hl205_2
                  replace p205 := eq_true p205
                  replace q205 := eq_true q205
                  have ea_ := Option.some.inj (hx203_2.symm.trans hx205_2)
                  injection ea_ with ea_ en_ ec_
                  subst ea_
                  subst ec_
                  clear en_
                  have p206 : 0 ≤ (x5_1 : Int) := of_decide_eq_true (by first | (with_reducible assumption) | assumption)
                  have q206 : x5_1 < (l1.length : Int) := of_decide_eq_true (by first | (with_reducible assumption) | assumption)
                  obtain ⟨ad206, A206_2, c206_2, e206, hx206_0, hx206_1, hx206_2, hl206_2, hi206_2⟩ := at_T29 HR1.out x5_1 p206 q206
                  obtain rfl : ad203 = ad206 := (by injection e206)
                  have HR206_2 := Aside0.mk hi206_2
                  have HC206_2 := Aside0.mk hl206_2
                  clear hi206_2 hl206_2
                  replace p206 := eq_true p206
                  replace q206 := eq_true q206
                  have ea_ := Option.some.inj (hx203_2.symm.trans hx206_2)
                  injection ea_ with ea_ en_ ec_
                  subst ea_
                  subst ec_
                  clear en_
                  have p207 : 0 ≤ (x5_1 : Int) := of_decide_eq_true (by first | (with_reducible assumption) | assumption)
                  have q207 : x5_1 < (l1.length : Int) := of_decide_eq_true (by first | (with_reducible assumption) | assumption)
                  obtain ⟨ad207, A207_2, c207_2, e207, hx207_0, hx207_1, hx207_2, hl207_2, hi207_2⟩ := at_T29 HR1.out x5_1 p207 q207
                  obtain rfl : ad203 = ad207 := (by injection e207)
                  have HR207_2 := Aside0.mk hi207_2
                  have HC207_2 := Aside0.mk hl207_2
                  clear hi207_2 hl207_2
                  replace p207 := eq_true p207
                  replace q207 := eq_true q207
                  have ea_ := Option.some.inj (hx203_2.symm.trans hx207_2)
                  injection ea_ with ea_ en_ ec_
                  subst ea_
                  subst ec_
                  clear en_
                  go_wp2
                  repeat (go_quiet (fail); try go_wp2)
                  go_meet
                  case rel => exact ⟨_, (decide (((rd_T29 l1 x5_1).f1) > (wrap64 (a0 - ((rd_T29 l1 x5_1).f0))))), (by first | rfl | (simp; done) | (simp [*]; done)), H', ⟨by have := HK1.out; first | omega | exact Nat.le_refl _⟩, by repeat (first | exact Drawn0.refl _ | apply Drawn0.step)⟩
          · rw [if_neg c5] at H
            exact absurd H (by simp)
        case rest =>
          clear HC4
          try clear c1
          try clear c2
          try clear p2
          try clear q2
          try clear hx2
          try clear c3
          try clear c3b0
          try clear c5
          try clear c5b0
          try clear c6
          try clear c6b0
          try clear p6
          try clear c7
          try clear c7b0
          try clear c8
          try clear c8b0
          try clear hx203_0
          try clear hx203_1
          try clear hx203_2
          try clear hx204_0
          try clear hx204_1
          try clear hx204_2
          try clear hx205_0
          try clear hx205_1
          try clear hx205_2
          try clear hx206_0
          try clear hx206_1
          try clear hx206_2
          try clear hx207_0
          try clear hx207_1
          try clear hx207_2
          try clear p2
          try clear p203
          try clear p204
          try clear p205
          try clear p206
          try clear p207
          try clear q203
          try clear q204
          try clear q205
          try clear q206
          try clear q207
          obtain ⟨kq, x49_3, rfl, HA, HJ3, ⟨mc3, rfl⟩⟩ := hcut
          cases kq with
          | zero => exact absurd HA.out (by simp [grapevineref04_Right.j1])
          | succ kj3 =>
            have H := HA.out
            clear HA
            simp only [grapevineref04_Right.j1] at H
            by_cases c9 : x49_3 = true
            · subst c9
              have H1 : (some false) = some r := by rw [if_pos rfl] at H; exact H
              clear H
              have H := H1
              clear H1
              obtain rfl := Option.some.inj H
              go_wp2
              repeat (go_quiet (fail); try go_wp2)
              go_ret
              exact ⟨by first | rfl | (simp; done) | (simp [*]; done), by repeat (first | exact Drawn0.refl _ | apply Drawn0.step)⟩
            · replace c9 := Bool.eq_false_iff.mpr c9
              subst c9
              have H1 : (if 0 ≤ x5_1 then (if x5_1 < (l1.length : Int) then (if ((rd_T29 l1 x5_1).f1) = 0 then (grapevineref04_Right.j2 kj3 a0 l1 x5_1 ((((rd_T29 l1 x5_1).f2).length : Int) == 0)) else (grapevineref04_Right.j2 kj3 a0 l1 x5_1 false)) else (none)) else (none)) = some r := by rw [if_neg (show ¬ (false = true) by decide)] at H; exact H
              clear H
              have H := H1
              clear H1
              have HC10 := Aside0.mk H
              clear H
              go_upto_region 6 with (fail)
              repeat (go_quiet (fail); go_upto_region 6 with (fail))
              go_cut [64] (fun v64 wc => ∃ (kq : Nat) (x64_9 : Bool), v64 = .bool x64_9 ∧ Aside0 (grapevineref04_Right.j2 kq a0 l1 x5_1 x64_9 = some r) ∧ Aside0 (kq ≤ kj3) ∧ Drawn0 w wc)
              case first =>
                have H := HC10.out
                clear HC10
                by_cases c11 : 0 ≤ x5_1
                · rw [if_pos c11] at H
                  have c11b0 : decide (0 ≤ x5_1) = true := decide_eq_true c11
                  clear c11
                  (first | rw [c11b0] | (simp only [i64_w, i32_w]; rw [c11b0]) | skip)
                  by_cases c12 : x5_1 < (l1.length : Int)
                  · rw [if_pos c12] at H
                    have c12b0 : decide (x5_1 < (l1.length : Int)) = true := decide_eq_true c12
                    clear c12
                    by_cases c13 : ((rd_T29 l1 x5_1).f1) = 0
                    · rw [if_pos c13] at H
                      have c13b0 : (((rd_T29 l1 x5_1).f1) == 0) = true := beq_iff_eq.mpr c13
                      have c13b1 : (((rd_T29 l1 x5_1).f1) != 0) = false := bne_eq_false_iff_eq.mpr c13
                      clear c13
                      have H' := Aside0.mk H
                      clear H
                      have p208 : 0 ≤ (x5_1 : Int) := of_decide_eq_true (by first | (with_reducible assumption) | assumption)
                      have q208 : x5_1 < (l1.length : Int) := of_decide_eq_true (by first | (with_reducible assumption) | assumption)
                      obtain ⟨ad208, A208_2, c208_2, e208, hx208_0, hx208_1, hx208_2, hl208_2, hi208_2⟩ := at_T29 HR1.out x5_1 p208 q208
                      cases e208
                      have HR208_2 := Aside0.mk hi208_2
                      have HC208_2 := Aside0.mk hl208_2
                      clear hi208_2 hl208_2
                      replace p208 := eq_true p208
                      replace q208 := eq_true q208
                      have p209 : 0 ≤ (x5_1 : Int) := of_decide_eq_true (by first | (with_reducible assumption) | assumption)
                      have q209 : x5_1 < (l1.length : Int) := of_decide_eq_true (by first | (with_reducible assumption) | assumption)
                      obtain ⟨ad209, A209_2, c209_2, e209, hx209_0, hx209_1, hx209_2, hl209_2, hi209_2⟩ := at_T29 HR1.out x5_1 p209 q209
                      obtain rfl : ad208 = ad209 := (by injection e209)
                      have HR209_2 := Aside0.mk hi209_2
                      have HC209_2 := Aside0.mk hl209_2
                      clear hi209_2 hl209_2
                      replace p209 := eq_true p209
                      replace q209 := eq_true q209
                      have ea_ := Option.some.inj (hx208_2.symm.trans hx209_2)
                      injection ea_ with ea_ en_ ec_
                      subst ea_
                      subst ec_
                      clear en_
                      go_wp2
                      repeat (go_quiet (fail); try go_wp2)
                      go_meet
                      case rel => exact ⟨_, (((((rd_T29 l1 x5_1).f2).length : Int) == 0)), (by first | rfl | (simp; done) | (simp [*]; done)), H', ⟨by have := HK1.out; have := HJ3.out; first | omega | exact Nat.le_refl _⟩, by repeat (first | exact Drawn0.refl _ | apply Drawn0.step)⟩
                    · rw [if_neg c13] at H
                      have c13b0 : (((rd_T29 l1 x5_1).f1) == 0) = false := beq_eq_false_iff_ne.mpr c13
                      have c13b1 : (((rd_T29 l1 x5_1).f1) != 0) = true := bne_iff_ne.mpr c13
                      have H' := Aside0.mk H
                      clear H
                      have p208 : 0 ≤ (x5_1 : Int) := of_decide_eq_true (by first | (with_reducible assumption) | assumption)
                      have q208 : x5_1 < (l1.length : Int) := of_decide_eq_true (by first | (with_reducible assumption) | assumption)
                      obtain ⟨ad208, A208_2, c208_2, e208, hx208_0, hx208_1, hx208_2, hl208_2, hi208_2⟩ := at_T29 HR1.out x5_1 p208 q208
                      cases e208
                      have HR208_2 := Aside0.mk hi208_2
                      have HC208_2 := Aside0.mk hl208_2
                      clear hi208_2 hl208_2
                      replace p208 := eq_true p208
                      replace q208 := eq_true q208
                      go_wp2
                      repeat (go_quiet (fail); try go_wp2)
                      go_meet
                      case rel => exact ⟨_, (false), (by first | rfl | (simp; done) | (simp [*]; done)), H', ⟨by have := HK1.out; have := HJ3.out; first | omega | exact Nat.le_refl _⟩, by repeat (first | exact Drawn0.refl _ | apply Drawn0.step)⟩
                  · rw [if_neg c12] at H
                    exact absurd H (by simp)
                · rw [if_neg c11] at H
                  exact absurd H (by simp)
              case rest =>
                clear HC10
                try clear c1
                try clear c2
                try clear p2
                try clear q2
                try clear hx2
                try clear c3
                try clear c3b0
                try clear c5
                try clear c5b0
                try clear c6
                try clear c6b0
                try clear p6
                try clear c7
                try clear c7b0
                try clear c8
                try clear c8b0
                try clear c9
                try clear c11
                try clear c11b0
                try clear c12
                try clear c12b0
                try clear c13
                try clear c13b0
                try clear c13b1
                try clear hx203_0
                try clear hx203_1
                try clear hx203_2
                try clear hx204_0
                try clear hx204_1
                try clear hx204_2
                try clear hx205_0
                try clear hx205_1
                try clear hx205_2
                try clear hx206_0
                try clear hx206_1
                try clear hx206_2
                try clear hx207_0
                try clear hx207_1
                try clear hx207_2
                try clear hx208_0
                try clear hx208_1
                try clear hx208_2
                try clear hx209_0
                try clear hx209_1
                try clear hx209_2
                try clear p2
                try clear p203
                try clear p204
                try clear p205
                try clear p206
                try clear p207
                try clear p208
                try clear p209
                try clear p6
                try clear q2
                try clear q203
                try clear q204
                try clear q205
                try clear q206
                try clear q207
                try clear q208
                try clear q209
                obtain ⟨kq, x64_9, rfl, HA, HJ9, ⟨mc9, rfl⟩⟩ := hcut
                cases kq with
                | zero => exact absurd HA.out (by simp [grapevineref04_Right.j2])
                | succ kj9 =>
                  have H := HA.out
                  clear HA
                  simp only [grapevineref04_Right.j2] at H
                  by_cases c14 : x64_9 = true
                  · subst c14
                    have H1 : (some false) = some r := by rw [if_pos rfl] at H; exact H
                    clear H
                    have H := H1
                    clear H1
                    obtain rfl := Option.some.inj H
                    go_wp2
                    repeat (go_quiet (fail); try go_wp2)
                    go_ret
                    exact ⟨by first | rfl | (simp; done) | (simp [*]; done), by repeat (first | exact Drawn0.refl _ | apply Drawn0.step)⟩
                  · replace c14 := Bool.eq_false_iff.mpr c14
                    subst c14
                    have H1 : (if x5_1 > 0 then (if 0 ≤ x5_1 then (if x5_1 < (l1.length : Int) then (if 0 ≤ (wrap64 (x5_1 - 1)) then (if (wrap64 (x5_1 - 1)) < (l1.length : Int) then (if ((rd_T29 l1 x5_1).f0) ≤ (wrap64 (((rd_T29 l1 (wrap64 (x5_1 - 1))).f0) + ((rd_T29 l1 (wrap64 (x5_1 - 1))).f1))) then (some false) else (grapevineref04_Right.l0 kj9 a0 l1 (wrap64 (x5_1 + 1)))) else (none)) else (none)) else (none)) else (none)) else (grapevineref04_Right.l0 kj9 a0 l1 (wrap64 (x5_1 + 1)))) = some r := by rw [if_neg (show ¬ (false = true) by decide)] at H; exact H
                    clear H
                    have H := H1
                    clear H1
                    by_cases c15 : x5_1 > 0
                    · rw [if_pos c15] at H
                      have c15b0 : decide (0 < x5_1) = true := decide_eq_true c15
                      clear c15
                      by_cases c16 : 0 ≤ x5_1
                      · rw [if_pos c16] at H
                        have c16b0 : decide (0 ≤ x5_1) = true := decide_eq_true c16
                        clear c16
                        by_cases c17 : x5_1 < (l1.length : Int)
                        · rw [if_pos c17] at H
                          have c17b0 : decide (x5_1 < (l1.length : Int)) = true := decide_eq_true c17
                          clear c17
                          obtain ⟨ji18, hji18⟩ : ∃ j_ : Int, (wrap64 (x5_1 - 1)) = j_ := ⟨_, rfl⟩
                          replace H : (if 0 ≤ (ji18) then (if (ji18) < (l1.length : Int) then (if ((rd_T29 l1 x5_1).f0) ≤ (wrap64 (((rd_T29 l1 (ji18)).f0) + ((rd_T29 l1 (ji18)).f1))) then (some false) else (grapevineref04_Right.l0 kj9 a0 l1 (wrap64 (x5_1 + 1)))) else (none)) else (none)) = some r := by first | (rw [hji18] at H; exact H) | (simp only [hji18] at H ⊢; exact H)
                          have hji18w : (IntKind.i64.wrap (x5_1 - 1)) = ji18 := (i64_w _).trans hji18
                          by_cases c19 : 0 ≤ (ji18)
                          · rw [if_pos c19] at H
                            have c19b0 : decide (0 ≤ (ji18)) = true := decide_eq_true c19
                            clear c19
                            by_cases c20 : (ji18) < (l1.length : Int)
                            · rw [if_pos c20] at H
                              have c20b0 : decide ((ji18) < (l1.length : Int)) = true := decide_eq_true c20
                              clear c20
                              by_cases c21 : ((rd_T29 l1 x5_1).f0) ≤ (wrap64 (((rd_T29 l1 (ji18)).f0) + ((rd_T29 l1 (ji18)).f1)))
                              · rw [if_pos c21] at H
                                have c21b0 : decide (((rd_T29 l1 x5_1).f0) ≤ (wrap64 (((rd_T29 l1 (ji18)).f0) + ((rd_T29 l1 (ji18)).f1)))) = true := decide_eq_true c21
                                clear c21
                                obtain rfl := Option.some.inj H
                                have p210 : 0 ≤ (x5_1 : Int) := of_decide_eq_true (by first | (with_reducible assumption) | assumption)
                                have q210 : x5_1 < (l1.length : Int) := of_decide_eq_true (by first | (with_reducible assumption) | assumption)
                                obtain ⟨ad210, A210_2, c210_2, e210, hx210_0, hx210_1, hx210_2, hl210_2, hi210_2⟩ := at_T29 HR1.out x5_1 p210 q210
                                cases e210
                                have HR210_2 := Aside0.mk hi210_2
                                have HC210_2 := Aside0.mk hl210_2
                                clear hi210_2 hl210_2
                                replace p210 := eq_true p210
                                replace q210 := eq_true q210
                                have p211 : 0 ≤ ((ji18) : Int) := of_decide_eq_true (by first | (with_reducible assumption) | assumption)
                                have q211 : (ji18) < (l1.length : Int) := of_decide_eq_true (by first | (with_reducible assumption) | assumption)
                                obtain ⟨ad211, A211_2, c211_2, e211, hx211_0, hx211_1, hx211_2, hl211_2, hi211_2⟩ := at_T29 HR1.out (ji18) p211 q211
                                obtain rfl : ad210 = ad211 := (by injection e211)
                                have HR211_2 := Aside0.mk hi211_2
                                have HC211_2 := Aside0.mk hl211_2
                                clear hi211_2 hl211_2
                                replace p211 := eq_true p211
                                replace q211 := eq_true q211
                                have p212 : 0 ≤ ((ji18) : Int) := of_decide_eq_true (by first | (with_reducible assumption) | assumption)
                                have q212 : (ji18) < (l1.length : Int) := of_decide_eq_true (by first | (with_reducible assumption) | assumption)
                                obtain ⟨ad212, A212_2, c212_2, e212, hx212_0, hx212_1, hx212_2, hl212_2, hi212_2⟩ := at_T29 HR1.out (ji18) p212 q212
                                obtain rfl : ad210 = ad212 := (by injection e212)
                                have HR212_2 := Aside0.mk hi212_2
                                have HC212_2 := Aside0.mk hl212_2
                                clear hi212_2 hl212_2
                                replace p212 := eq_true p212
                                replace q212 := eq_true q212
                                have ea_ := Option.some.inj (hx211_2.symm.trans hx212_2)
                                injection ea_ with ea_ en_ ec_
                                subst ea_
                                subst ec_
                                clear en_
                                go_wp2
                                repeat (go_quiet (fail); try go_wp2)
                                go_ret
                                exact ⟨by first | rfl | (simp; done) | (simp only [← hji18] <;> (first | rfl | simp)) | (simp [*]; done), by repeat (first | exact Drawn0.refl _ | apply Drawn0.step)⟩
                              · rw [if_neg c21] at H
                                have c21b0 : decide (((rd_T29 l1 x5_1).f0) ≤ (wrap64 (((rd_T29 l1 (ji18)).f0) + ((rd_T29 l1 (ji18)).f1)))) = false := decide_eq_false c21
                                clear c21
                                have H' := Aside0.mk H
                                clear H
                                have p210 : 0 ≤ (x5_1 : Int) := of_decide_eq_true (by first | (with_reducible assumption) | assumption)
                                have q210 : x5_1 < (l1.length : Int) := of_decide_eq_true (by first | (with_reducible assumption) | assumption)
                                obtain ⟨ad210, A210_2, c210_2, e210, hx210_0, hx210_1, hx210_2, hl210_2, hi210_2⟩ := at_T29 HR1.out x5_1 p210 q210
                                cases e210
                                have HR210_2 := Aside0.mk hi210_2
                                have HC210_2 := Aside0.mk hl210_2
                                clear hi210_2 hl210_2
                                replace p210 := eq_true p210
                                replace q210 := eq_true q210
                                have p211 : 0 ≤ ((ji18) : Int) := of_decide_eq_true (by first | (with_reducible assumption) | assumption)
                                have q211 : (ji18) < (l1.length : Int) := of_decide_eq_true (by first | (with_reducible assumption) | assumption)
                                obtain ⟨ad211, A211_2, c211_2, e211, hx211_0, hx211_1, hx211_2, hl211_2, hi211_2⟩ := at_T29 HR1.out (ji18) p211 q211
                                obtain rfl : ad210 = ad211 := (by injection e211)
                                have HR211_2 := Aside0.mk hi211_2
                                have HC211_2 := Aside0.mk hl211_2
                                clear hi211_2 hl211_2
                                replace p211 := eq_true p211
                                replace q211 := eq_true q211
                                have p212 : 0 ≤ ((ji18) : Int) := of_decide_eq_true (by first | (with_reducible assumption) | assumption)
                                have q212 : (ji18) < (l1.length : Int) := of_decide_eq_true (by first | (with_reducible assumption) | assumption)
                                obtain ⟨ad212, A212_2, c212_2, e212, hx212_0, hx212_1, hx212_2, hl212_2, hi212_2⟩ := at_T29 HR1.out (ji18) p212 q212
                                obtain rfl : ad210 = ad212 := (by injection e212)
                                have HR212_2 := Aside0.mk hi212_2
                                have HC212_2 := Aside0.mk hl212_2
                                clear hi212_2 hl212_2
                                replace p212 := eq_true p212
                                replace q212 := eq_true q212
                                have ea_ := Option.some.inj (hx211_2.symm.trans hx212_2)
                                injection ea_ with ea_ en_ ec_
                                subst ea_
                                subst ec_
                                clear en_
                                go_wp2
                                repeat (go_quiet (fail); try go_wp2)
                                go_roundg kj9
                                case measure => have := HK1.out; have := HJ3.out; have := HJ9.out; omega
                                case rel => exact ⟨(wrap64 (x5_1 + 1)), (by first | rfl | (simp; done) | (simp [*]; done)), H', ⟨by have := HK1.out; have := HJ3.out; have := HJ9.out; omega⟩, by repeat (first | exact Drawn0.refl _ | apply Drawn0.step)⟩
                            · rw [if_neg c20] at H
                              exact absurd H (by simp)
                          · rw [if_neg c19] at H
                            exact absurd H (by simp)
                        · rw [if_neg c17] at H
                          exact absurd H (by simp)
                      · rw [if_neg c16] at H
                        exact absurd H (by simp)
                    · rw [if_neg c15] at H
                      have c15b0 : decide (0 < x5_1) = false := decide_eq_false c15
                      clear c15
                      have H' := Aside0.mk H
                      clear H
                      go_wp2
                      repeat (go_quiet (fail); try go_wp2)
                      go_roundg kj9
                      case measure => have := HK1.out; have := HJ3.out; have := HJ9.out; omega
                      case rel => exact ⟨(wrap64 (x5_1 + 1)), (by first | rfl | (simp; done) | (simp [*]; done)), H', ⟨by have := HK1.out; have := HJ3.out; have := HJ9.out; omega⟩, by repeat (first | exact Drawn0.refl _ | apply Drawn0.step)⟩
      · rw [if_neg c3] at H
        have c3b0 : decide (x5_1 < (l1.length : Int)) = false := decide_eq_false c3
        clear c3
        obtain rfl := Option.some.inj H
        go_wp2
        repeat (go_quiet (fail); try go_wp2)
        go_ret
        exact ⟨by first | rfl | (simp; done) | (simp [*]; done), by repeat (first | exact Drawn0.refl _ | apply Drawn0.step)⟩

end Go.Proofs.Ytebfopcihjadpaa.Pr
