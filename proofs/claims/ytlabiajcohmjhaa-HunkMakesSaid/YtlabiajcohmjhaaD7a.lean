-- written by a program of this session's (a turned copy of the kit's printer); Lean checks it
import Derived.Test.YtlabiajcohmjhaaD0
namespace Go.Proofs.Ytlabiajcohmjhaa.Pr
open Go.RowKit Go.Proofs.YtlabiajcohmjhaaW.PrintWords Go.Proofs.YtlabiajcohmjhaaW.PrintLast Go.Proofs.YtlabiajcohmjhaaW.PrintMore
attribute [local go_sem] max2_int min2_int max_two min_two max_three min_three max_four min_four   -- for this text's walks alone
set_option linter.unusedVariables false
set_option linter.unusedSimpArgs false

mutual
def grapevineref04_Right.l0 : Nat → Int → List (S51) → Int → Option (Bool)
 | 0, _, _, _ => none
 | k + 1, x0, x1, x5 => if x5 < (x1.length : Int) then (if 0 ≤ x5 then (if ((rd_T51 x1 x5).f0) < 0 then (grapevineref04_Right.j1 k x0 x1 x5 true) else (if ((rd_T51 x1 x5).f1) < 0 then (grapevineref04_Right.j1 k x0 x1 x5 true) else (if ((rd_T51 x1 x5).f0) > x0 then (grapevineref04_Right.j1 k x0 x1 x5 true) else (grapevineref04_Right.j1 k x0 x1 x5 (decide (((rd_T51 x1 x5).f1) > (wrap64 (x0 - ((rd_T51 x1 x5).f0))))))))) else (none)) else (some true)
def grapevineref04_Right.j1 : Nat → Int → List (S51) → Int → Bool → Option (Bool)
 | 0, _, _, _, _ => none
 | k + 1, x0, x1, x5, x49 => if x49 = true then (some false) else (if 0 ≤ x5 then (if x5 < (x1.length : Int) then (if ((rd_T51 x1 x5).f1) = 0 then (grapevineref04_Right.j2 k x0 x1 x5 ((((rd_T51 x1 x5).f2).length : Int) == 0)) else (grapevineref04_Right.j2 k x0 x1 x5 false)) else (none)) else (none))
def grapevineref04_Right.j2 : Nat → Int → List (S51) → Int → Bool → Option (Bool)
 | 0, _, _, _, _ => none
 | k + 1, x0, x1, x5, x64 => if x64 = true then (some false) else (if x5 > 0 then (if 0 ≤ x5 then (if x5 < (x1.length : Int) then (if 0 ≤ (wrap64 (x5 - 1)) then (if (wrap64 (x5 - 1)) < (x1.length : Int) then (if ((rd_T51 x1 x5).f0) ≤ (wrap64 (((rd_T51 x1 (wrap64 (x5 - 1))).f0) + ((rd_T51 x1 (wrap64 (x5 - 1))).f1))) then (some false) else (grapevineref04_Right.l0 k x0 x1 (wrap64 (x5 + 1)))) else (none)) else (none)) else (none)) else (none)) else (grapevineref04_Right.l0 k x0 x1 (wrap64 (x5 + 1))))
end
def grapevineref04_Right.f (k : Nat) (a0 : Int) (l1 : List (S51)) : Option (Bool) := grapevineref04_Right.l0 k a0 l1 0
theorem grapevineref04_Right.mono_l : ∀ k, (∀ y0 y1 y2, LeO (grapevineref04_Right.l0 k y0 y1 y2) (grapevineref04_Right.l0 (k + 1) y0 y1 y2)) ∧ (∀ y0 y1 y2 y3, LeO (grapevineref04_Right.j1 k y0 y1 y2 y3) (grapevineref04_Right.j1 (k + 1) y0 y1 y2 y3)) ∧ (∀ y0 y1 y2 y3, LeO (grapevineref04_Right.j2 k y0 y1 y2 y3) (grapevineref04_Right.j2 (k + 1) y0 y1 y2 y3))
 | 0 => ⟨fun _ _ _ r h => by simp [grapevineref04_Right.l0] at h, fun _ _ _ _ r h => by simp [grapevineref04_Right.j1] at h, fun _ _ _ _ r h => by simp [grapevineref04_Right.j2] at h⟩
 | k + 1 => by
  obtain ⟨ih0, ih1, ih2⟩ := grapevineref04_Right.mono_l k
  refine ⟨?_, ?_, ?_⟩
  ·intro y0 y1 y2
   unfold grapevineref04_Right.l0
   repeat' first
   | (with_reducible exact ih0 _ _ _)
   | (with_reducible exact ih1 _ _ _ _)
   | (with_reducible exact ih2 _ _ _ _)
   | (with_reducible exact LeO.refl _)
   | (with_reducible exact LeO.none _)
   | (with_reducible refine LeO.ite ?_ ?_)
   | (with_reducible refine LeO.bind ?_ (fun _ => ?_))
   | exact ih0 _ _ _
   | exact ih1 _ _ _ _
   | exact ih2 _ _ _ _
   | exact LeO.none _
   | refine LeO.ite ?_ ?_
   | refine LeO.bind ?_ (fun _ => ?_)
  ·intro y0 y1 y2 y3
   unfold grapevineref04_Right.j1
   repeat' first
   | (with_reducible exact ih0 _ _ _)
   | (with_reducible exact ih1 _ _ _ _)
   | (with_reducible exact ih2 _ _ _ _)
   | (with_reducible exact LeO.refl _)
   | (with_reducible exact LeO.none _)
   | (with_reducible refine LeO.ite ?_ ?_)
   | (with_reducible refine LeO.bind ?_ (fun _ => ?_))
   | exact ih0 _ _ _
   | exact ih1 _ _ _ _
   | exact ih2 _ _ _ _
   | exact LeO.none _
   | refine LeO.ite ?_ ?_
   | refine LeO.bind ?_ (fun _ => ?_)
  ·intro y0 y1 y2 y3
   unfold grapevineref04_Right.j2
   repeat' first
   | (with_reducible exact ih0 _ _ _)
   | (with_reducible exact ih1 _ _ _ _)
   | (with_reducible exact ih2 _ _ _ _)
   | (with_reducible exact LeO.refl _)
   | (with_reducible exact LeO.none _)
   | (with_reducible refine LeO.ite ?_ ?_)
   | (with_reducible refine LeO.bind ?_ (fun _ => ?_))
   | exact ih0 _ _ _
   | exact ih1 _ _ _ _
   | exact ih2 _ _ _ _
   | exact LeO.none _
   | refine LeO.ite ?_ ?_
   | refine LeO.bind ?_ (fun _ => ?_)
theorem grapevineref04_Right.mono : ∀ a0 a1 k, LeO (grapevineref04_Right.f k a0 a1) (grapevineref04_Right.f (k + 1) a0 a1) := by
 intro a0 a1 k
 obtain ⟨ih0, ih1, ih2⟩ := grapevineref04_Right.mono_l k
 unfold grapevineref04_Right.f
 repeat' first
   | (with_reducible exact ih0 _ _ _)
   | (with_reducible exact ih1 _ _ _ _)
   | (with_reducible exact ih2 _ _ _ _)
   | (with_reducible exact LeO.refl _)
   | (with_reducible exact LeO.none _)
   | (with_reducible refine LeO.ite ?_ ?_)
   | (with_reducible refine LeO.bind ?_ (fun _ => ?_))
   | exact ih0 _ _ _
   | exact ih1 _ _ _ _
   | exact ih2 _ _ _ _
   | exact LeO.none _
   | refine LeO.ite ?_ ?_
   | refine LeO.bind ?_ (fun _ => ?_)
set_option maxHeartbeats 8000000 in
set_option maxRecDepth 100000 in
theorem grapevineref04_Right.calls (k : Nat) (a0 : Int) (A1 : Option Addr) (c1 : Nat) (l1 : List (S51)) (r : Bool) (w : World) (hr1 : Kd.C k51 w A1 l1.length l1) (hc1 : l1.length ≤ c1) (h : grapevineref04_Right.f k a0 l1 = some r) :
  Calls Try.prog 30 #[.int .i64 a0, .slice A1 l1.length c1] w fun e w' => e = .returned (.bool r) ∧ Drawn0 w w' := by
 have HR1 := Aside0.mk hr1
 have HC1 := Aside0.mk hc1
 clear hr1 hc1
 have H : (grapevineref04_Right.l0 k a0 l1 0) = some r := h
 clear h
 have H' := Aside0.mk H
 clear H
 go_enter Try.func30, Try.ntmps30
 go_wp2
 repeat (go_quiet (fail); try go_wp2)
 go_loopg [5] k (fun kq v5 w' => ∃ (x5_1 : Int), v5 = .int .i64 x5_1 ∧ Aside0 (grapevineref04_Right.l0 kq a0 l1 x5_1 = some r) ∧ Aside0 (kq ≤ k) ∧ Drawn0 w w')
 case atStart => exact ⟨(0), (by first | rfl | (simp; done) | (simp [*]; done)), H', ⟨Nat.le_refl _⟩, by repeat (first | exact Drawn0.refl _ | apply Drawn0.step)⟩
 case round =>
  clear H'
  try clear c1
  try clear p2
  obtain ⟨x5_1, rfl, HA, HK1, ⟨m1, rfl⟩⟩ := hrel
  cases gk with
  | zero => exact absurd HA.out (by simp [grapevineref04_Right.l0])
  | succ k1 =>
   have H := HA.out
   clear HA
   simp only [grapevineref04_Right.l0] at H
   by_cases c3 : x5_1 < (l1.length : Int)
   ·rw [if_pos c3] at H
    have c3b0 : decide (x5_1 < (l1.length : Int)) = true := decide_eq_true c3
    clear c3
    have HC4 := Aside0.mk H
    clear H
    go_upto_region 4 with (fail)
    repeat (go_quiet (fail); go_upto_region 4 with (fail))
    go_cut [49] (fun v49 wc => ∃ (kq : Nat) (x49_3 : Bool), v49 = .bool x49_3 ∧ Aside0 (grapevineref04_Right.j1 kq a0 l1 x5_1 x49_3 = some r) ∧ Aside0 (kq ≤ k1) ∧ Drawn0 w wc)
    case first =>
     have H := HC4.out
     clear HC4
     by_cases c5 : 0 ≤ x5_1
     ·rw [if_pos c5] at H
      have c5b0 : decide (0 ≤ x5_1) = true := decide_eq_true c5
      clear c5
      (first | rw [c5b0] | (simp only [i64_w, i32_w]; rw [c5b0]) | skip)
      by_cases c6 : ((rd_T51 l1 x5_1).f0) < 0
      ·rw [if_pos c6] at H
       have c6b0 : decide (((rd_T51 l1 x5_1).f0) < 0) = true := decide_eq_true c6
       clear c6
       have H' := Aside0.mk H
       clear H
       have p296 : 0 ≤ (x5_1 : Int) := of_decide_eq_true (by first | (with_reducible assumption) | assumption)
       have q296 : x5_1 < (l1.length : Int) := of_decide_eq_true (by first | (with_reducible assumption) | assumption)
       obtain ⟨ad296, A296_2, c296_2, e296, hx296_0, hx296_1, hx296_2, hl296_2, hi296_2⟩ := at_T51 HR1.out x5_1 p296 q296
       cases e296
       have HR296_2 := Aside0.mk hi296_2
       have HC296_2 := Aside0.mk hl296_2
       clear hi296_2 hl296_2
       replace p296 := eq_true p296
       replace q296 := eq_true q296
       go_wp2
       repeat (go_quiet (fail); try go_wp2)
       go_meet
       case rel => exact ⟨_, (true), (by first | rfl | (simp; done) | (simp [*]; done)), H', ⟨by have := HK1.out; first | omega | exact Nat.le_refl _⟩, by repeat (first | exact Drawn0.refl _ | apply Drawn0.step)⟩
      ·rw [if_neg c6] at H
       have c6b0 : decide (((rd_T51 l1 x5_1).f0) < 0) = false := decide_eq_false c6
       clear c6
       by_cases c7 : ((rd_T51 l1 x5_1).f1) < 0
       ·rw [if_pos c7] at H
        have c7b0 : decide (((rd_T51 l1 x5_1).f1) < 0) = true := decide_eq_true c7
        clear c7
        have H' := Aside0.mk H
        clear H
        have p296 : 0 ≤ (x5_1 : Int) := of_decide_eq_true (by first | (with_reducible assumption) | assumption)
        have q296 : x5_1 < (l1.length : Int) := of_decide_eq_true (by first | (with_reducible assumption) | assumption)
        obtain ⟨ad296, A296_2, c296_2, e296, hx296_0, hx296_1, hx296_2, hl296_2, hi296_2⟩ := at_T51 HR1.out x5_1 p296 q296
        cases e296
        have HR296_2 := Aside0.mk hi296_2
        have HC296_2 := Aside0.mk hl296_2
        clear hi296_2 hl296_2
        replace p296 := eq_true p296
        replace q296 := eq_true q296
        have p297 : 0 ≤ (x5_1 : Int) := of_decide_eq_true (by first | (with_reducible assumption) | assumption)
        have q297 : x5_1 < (l1.length : Int) := of_decide_eq_true (by first | (with_reducible assumption) | assumption)
        obtain ⟨ad297, A297_2, c297_2, e297, hx297_0, hx297_1, hx297_2, hl297_2, hi297_2⟩ := at_T51 HR1.out x5_1 p297 q297
        obtain rfl : ad296 = ad297 := (by injection e297)
        have HR297_2 := Aside0.mk hi297_2
        have HC297_2 := Aside0.mk hl297_2
        clear hi297_2 hl297_2
        replace p297 := eq_true p297
        replace q297 := eq_true q297
        have ea_ := Option.some.inj (hx296_2.symm.trans hx297_2)
        injection ea_ with ea_ en_ ec_
        subst ea_
        subst ec_
        clear en_
        go_wp2
        repeat (go_quiet (fail); try go_wp2)
        go_meet
        case rel => exact ⟨_, (true), (by first | rfl | (simp; done) | (simp [*]; done)), H', ⟨by have := HK1.out; first | omega | exact Nat.le_refl _⟩, by repeat (first | exact Drawn0.refl _ | apply Drawn0.step)⟩
       ·rw [if_neg c7] at H
        have c7b0 : decide (((rd_T51 l1 x5_1).f1) < 0) = false := decide_eq_false c7
        clear c7
        by_cases c8 : ((rd_T51 l1 x5_1).f0) > a0
        ·rw [if_pos c8] at H
         have c8b0 : decide (a0 < ((rd_T51 l1 x5_1).f0)) = true := decide_eq_true c8
         clear c8
         have H' := Aside0.mk H
         clear H
         have p296 : 0 ≤ (x5_1 : Int) := of_decide_eq_true (by first | (with_reducible assumption) | assumption)
         have q296 : x5_1 < (l1.length : Int) := of_decide_eq_true (by first | (with_reducible assumption) | assumption)
         obtain ⟨ad296, A296_2, c296_2, e296, hx296_0, hx296_1, hx296_2, hl296_2, hi296_2⟩ := at_T51 HR1.out x5_1 p296 q296
         cases e296
         have HR296_2 := Aside0.mk hi296_2
         have HC296_2 := Aside0.mk hl296_2
         clear hi296_2 hl296_2
         replace p296 := eq_true p296
         replace q296 := eq_true q296
         have p297 : 0 ≤ (x5_1 : Int) := of_decide_eq_true (by first | (with_reducible assumption) | assumption)
         have q297 : x5_1 < (l1.length : Int) := of_decide_eq_true (by first | (with_reducible assumption) | assumption)
         obtain ⟨ad297, A297_2, c297_2, e297, hx297_0, hx297_1, hx297_2, hl297_2, hi297_2⟩ := at_T51 HR1.out x5_1 p297 q297
         obtain rfl : ad296 = ad297 := (by injection e297)
         have HR297_2 := Aside0.mk hi297_2
         have HC297_2 := Aside0.mk hl297_2
         clear hi297_2 hl297_2
         replace p297 := eq_true p297
         replace q297 := eq_true q297
         have ea_ := Option.some.inj (hx296_2.symm.trans hx297_2)
         injection ea_ with ea_ en_ ec_
         subst ea_
         subst ec_
         clear en_
         have p298 : 0 ≤ (x5_1 : Int) := of_decide_eq_true (by first | (with_reducible assumption) | assumption)
         have q298 : x5_1 < (l1.length : Int) := of_decide_eq_true (by first | (with_reducible assumption) | assumption)
         obtain ⟨ad298, A298_2, c298_2, e298, hx298_0, hx298_1, hx298_2, hl298_2, hi298_2⟩ := at_T51 HR1.out x5_1 p298 q298
         obtain rfl : ad296 = ad298 := (by injection e298)
         have HR298_2 := Aside0.mk hi298_2
         have HC298_2 := Aside0.mk hl298_2
         clear hi298_2 hl298_2
         replace p298 := eq_true p298
         replace q298 := eq_true q298
         have ea_ := Option.some.inj (hx296_2.symm.trans hx298_2)
         injection ea_ with ea_ en_ ec_
         subst ea_
         subst ec_
         clear en_
         go_wp2
         repeat (go_quiet (fail); try go_wp2)
         go_meet
         case rel => exact ⟨_, (true), (by first | rfl | (simp; done) | (simp [*]; done)), H', ⟨by have := HK1.out; first | omega | exact Nat.le_refl _⟩, by repeat (first | exact Drawn0.refl _ | apply Drawn0.step)⟩
        ·rw [if_neg c8] at H
         have c8b0 : decide (a0 < ((rd_T51 l1 x5_1).f0)) = false := decide_eq_false c8
         clear c8
         have H' := Aside0.mk H
         clear H
         have p296 : 0 ≤ (x5_1 : Int) := of_decide_eq_true (by first | (with_reducible assumption) | assumption)
         have q296 : x5_1 < (l1.length : Int) := of_decide_eq_true (by first | (with_reducible assumption) | assumption)
         obtain ⟨ad296, A296_2, c296_2, e296, hx296_0, hx296_1, hx296_2, hl296_2, hi296_2⟩ := at_T51 HR1.out x5_1 p296 q296
         cases e296
         have HR296_2 := Aside0.mk hi296_2
         have HC296_2 := Aside0.mk hl296_2
         clear hi296_2 hl296_2
         replace p296 := eq_true p296
         replace q296 := eq_true q296
         have p297 : 0 ≤ (x5_1 : Int) := of_decide_eq_true (by first | (with_reducible assumption) | assumption)
         have q297 : x5_1 < (l1.length : Int) := of_decide_eq_true (by first | (with_reducible assumption) | assumption)
         obtain ⟨ad297, A297_2, c297_2, e297, hx297_0, hx297_1, hx297_2, hl297_2, hi297_2⟩ := at_T51 HR1.out x5_1 p297 q297
         obtain rfl : ad296 = ad297 := (by injection e297)
         have HR297_2 := Aside0.mk hi297_2
         have HC297_2 := Aside0.mk hl297_2
         clear hi297_2 hl297_2
         replace p297 := eq_true p297
         replace q297 := eq_true q297
         have ea_ := Option.some.inj (hx296_2.symm.trans hx297_2)
         injection ea_ with ea_ en_ ec_
         subst ea_
         subst ec_
         clear en_
         have p298 : 0 ≤ (x5_1 : Int) := of_decide_eq_true (by first | (with_reducible assumption) | assumption)
         have q298 : x5_1 < (l1.length : Int) := of_decide_eq_true (by first | (with_reducible assumption) | assumption)
         obtain ⟨ad298, A298_2, c298_2, e298, hx298_0, hx298_1, hx298_2, hl298_2, hi298_2⟩ := at_T51 HR1.out x5_1 p298 q298
         obtain rfl : ad296 = ad298 := (by injection e298)
         have HR298_2 := Aside0.mk hi298_2
         have HC298_2 := Aside0.mk hl298_2
         clear hi298_2 hl298_2
         replace p298 := eq_true p298
         replace q298 := eq_true q298
         have ea_ := Option.some.inj (hx296_2.symm.trans hx298_2)
         injection ea_ with ea_ en_ ec_
         subst ea_
         subst ec_
         clear en_
         have p299 : 0 ≤ (x5_1 : Int) := of_decide_eq_true (by first | (with_reducible assumption) | assumption)
         have q299 : x5_1 < (l1.length : Int) := of_decide_eq_true (by first | (with_reducible assumption) | assumption)
         obtain ⟨ad299, A299_2, c299_2, e299, hx299_0, hx299_1, hx299_2, hl299_2, hi299_2⟩ := at_T51 HR1.out x5_1 p299 q299
         obtain rfl : ad296 = ad299 := (by injection e299)
         have HR299_2 := Aside0.mk hi299_2
         have HC299_2 := Aside0.mk hl299_2
         clear hi299_2 hl299_2
         replace p299 := eq_true p299
         replace q299 := eq_true q299
         have ea_ := Option.some.inj (hx296_2.symm.trans hx299_2)
         injection ea_ with ea_ en_ ec_
         subst ea_
         subst ec_
         clear en_
         have p300 : 0 ≤ (x5_1 : Int) := of_decide_eq_true (by first | (with_reducible assumption) | assumption)
         have q300 : x5_1 < (l1.length : Int) := of_decide_eq_true (by first | (with_reducible assumption) | assumption)
         obtain ⟨ad300, A300_2, c300_2, e300, hx300_0, hx300_1, hx300_2, hl300_2, hi300_2⟩ := at_T51 HR1.out x5_1 p300 q300
         obtain rfl : ad296 = ad300 := (by injection e300)
         have HR300_2 := Aside0.mk hi300_2
         have HC300_2 := Aside0.mk hl300_2
         clear hi300_2 hl300_2
         replace p300 := eq_true p300
         replace q300 := eq_true q300
         have ea_ := Option.some.inj (hx296_2.symm.trans hx300_2)
         injection ea_ with ea_ en_ ec_
         subst ea_
         subst ec_
         clear en_
         go_wp2
         repeat (go_quiet (fail); try go_wp2)
         go_meet
         case rel => exact ⟨_, (decide (((rd_T51 l1 x5_1).f1) > (wrap64 (a0 - ((rd_T51 l1 x5_1).f0))))), (by first | rfl | (simp; done) | (simp [*]; done)), H', ⟨by have := HK1.out; first | omega | exact Nat.le_refl _⟩, by repeat (first | exact Drawn0.refl _ | apply Drawn0.step)⟩
     ·rw [if_neg c5] at H
      exact absurd H (by simp)
    case rest =>
     clear HC4
     try clear c1
     try clear c2
     try clear p2
     try clear q2
     try clear hx2
     try clear c3
     try clear c3b0
     try clear p3
     try clear q3
     try clear hx3
     try clear c5
     try clear c5b0
     try clear c6
     try clear c6b0
     try clear p6
     try clear c7
     try clear c7b0
     try clear c8
     try clear c8b0
     try clear hx296_0
     try clear hx296_1
     try clear hx296_2
     try clear hx297_0
     try clear hx297_1
     try clear hx297_2
     try clear hx298_0
     try clear hx298_1
     try clear hx298_2
     try clear hx299_0
     try clear hx299_1
     try clear hx299_2
     try clear hx300_0
     try clear hx300_1
     try clear hx300_2
     try clear p2
     try clear p296
     try clear p297
     try clear p298
     try clear p299
     try clear p300
     try clear q296
     try clear q297
     try clear q298
     try clear q299
     try clear q300
     obtain ⟨kq, x49_3, rfl, HA, HJ3, ⟨mc3, rfl⟩⟩ := hcut
     cases kq with
     | zero => exact absurd HA.out (by simp [grapevineref04_Right.j1])
     | succ kj3 =>
      have H := HA.out
      clear HA
      simp only [grapevineref04_Right.j1] at H
      by_cases c9 : x49_3 = true
      ·subst c9
       have H1 : (some false) = some r := by rw [if_pos rfl] at H; exact H
       clear H
       have H := H1
       clear H1
       obtain rfl := Option.some.inj H
       go_wp2
       repeat (go_quiet (fail); try go_wp2)
       go_ret
       exact ⟨by first | rfl | (simp; done) | (simp [*]; done), by repeat (first | exact Drawn0.refl _ | apply Drawn0.step)⟩
      ·replace c9 := Bool.eq_false_iff.mpr c9
       subst c9
       have H1 : (if 0 ≤ x5_1 then (if x5_1 < (l1.length : Int) then (if ((rd_T51 l1 x5_1).f1) = 0 then (grapevineref04_Right.j2 kj3 a0 l1 x5_1 ((((rd_T51 l1 x5_1).f2).length : Int) == 0)) else (grapevineref04_Right.j2 kj3 a0 l1 x5_1 false)) else (none)) else (none)) = some r := by rw [if_neg (show ¬ (false = true) by decide)] at H; exact H
       clear H
       have H := H1
       clear H1
       have HC10 := Aside0.mk H
       clear H
       go_upto_region 6 with (fail)
       repeat (go_quiet (fail); go_upto_region 6 with (fail))
       go_cut [64] (fun v64 wc => ∃ (kq : Nat) (x64_9 : Bool), v64 = .bool x64_9 ∧ Aside0 (grapevineref04_Right.j2 kq a0 l1 x5_1 x64_9 = some r) ∧ Aside0 (kq ≤ kj3) ∧ Drawn0 w wc)
       case first =>
        have H := HC10.out
        clear HC10
        by_cases c11 : 0 ≤ x5_1
        ·rw [if_pos c11] at H
         have c11b0 : decide (0 ≤ x5_1) = true := decide_eq_true c11
         clear c11
         (first | rw [c11b0] | (simp only [i64_w, i32_w]; rw [c11b0]) | skip)
         by_cases c12 : x5_1 < (l1.length : Int)
         ·rw [if_pos c12] at H
          have c12b0 : decide (x5_1 < (l1.length : Int)) = true := decide_eq_true c12
          clear c12
          by_cases c13 : ((rd_T51 l1 x5_1).f1) = 0
          ·rw [if_pos c13] at H
           have c13b0 : (((rd_T51 l1 x5_1).f1) == 0) = true := beq_iff_eq.mpr c13
           have c13b1 : (((rd_T51 l1 x5_1).f1) != 0) = false := bne_eq_false_iff_eq.mpr c13
           clear c13
           have H' := Aside0.mk H
           clear H
           have p301 : 0 ≤ (x5_1 : Int) := of_decide_eq_true (by first | (with_reducible assumption) | assumption)
           have q301 : x5_1 < (l1.length : Int) := of_decide_eq_true (by first | (with_reducible assumption) | assumption)
           obtain ⟨ad301, A301_2, c301_2, e301, hx301_0, hx301_1, hx301_2, hl301_2, hi301_2⟩ := at_T51 HR1.out x5_1 p301 q301
           cases e301
           have HR301_2 := Aside0.mk hi301_2
           have HC301_2 := Aside0.mk hl301_2
           clear hi301_2 hl301_2
           replace p301 := eq_true p301
           replace q301 := eq_true q301
           have p302 : 0 ≤ (x5_1 : Int) := of_decide_eq_true (by first | (with_reducible assumption) | assumption)
           have q302 : x5_1 < (l1.length : Int) := of_decide_eq_true (by first | (with_reducible assumption) | assumption)
           obtain ⟨ad302, A302_2, c302_2, e302, hx302_0, hx302_1, hx302_2, hl302_2, hi302_2⟩ := at_T51 HR1.out x5_1 p302 q302
           obtain rfl : ad301 = ad302 := (by injection e302)
           have HR302_2 := Aside0.mk hi302_2
           have HC302_2 := Aside0.mk hl302_2
           clear hi302_2 hl302_2
           replace p302 := eq_true p302
           replace q302 := eq_true q302
           have ea_ := Option.some.inj (hx301_2.symm.trans hx302_2)
           injection ea_ with ea_ en_ ec_
           subst ea_
           subst ec_
           clear en_
           go_wp2
           repeat (go_quiet (fail); try go_wp2)
           go_meet
           case rel => exact ⟨_, (((((rd_T51 l1 x5_1).f2).length : Int) == 0)), (by first | rfl | (simp; done) | (simp [*]; done)), H', ⟨by have := HK1.out; have := HJ3.out; first | omega | exact Nat.le_refl _⟩, by repeat (first | exact Drawn0.refl _ | apply Drawn0.step)⟩
          ·rw [if_neg c13] at H
           have c13b0 : (((rd_T51 l1 x5_1).f1) == 0) = false := beq_eq_false_iff_ne.mpr c13
           have c13b1 : (((rd_T51 l1 x5_1).f1) != 0) = true := bne_iff_ne.mpr c13
           have H' := Aside0.mk H
           clear H
           have p301 : 0 ≤ (x5_1 : Int) := of_decide_eq_true (by first | (with_reducible assumption) | assumption)
           have q301 : x5_1 < (l1.length : Int) := of_decide_eq_true (by first | (with_reducible assumption) | assumption)
           obtain ⟨ad301, A301_2, c301_2, e301, hx301_0, hx301_1, hx301_2, hl301_2, hi301_2⟩ := at_T51 HR1.out x5_1 p301 q301
           cases e301
           have HR301_2 := Aside0.mk hi301_2
           have HC301_2 := Aside0.mk hl301_2
           clear hi301_2 hl301_2
           replace p301 := eq_true p301
           replace q301 := eq_true q301
           go_wp2
           repeat (go_quiet (fail); try go_wp2)
           go_meet
           case rel => exact ⟨_, (false), (by first | rfl | (simp; done) | (simp [*]; done)), H', ⟨by have := HK1.out; have := HJ3.out; first | omega | exact Nat.le_refl _⟩, by repeat (first | exact Drawn0.refl _ | apply Drawn0.step)⟩
         ·rw [if_neg c12] at H
          exact absurd H (by simp)
        ·rw [if_neg c11] at H
         exact absurd H (by simp)
       case rest =>
        clear HC10
        try clear c1
        try clear c2
        try clear p2
        try clear q2
        try clear hx2
        try clear c3
        try clear c3b0
        try clear p3
        try clear q3
        try clear hx3
        try clear c5
        try clear c5b0
        try clear c6
        try clear c6b0
        try clear p6
        try clear c7
        try clear c7b0
        try clear c8
        try clear c8b0
        try clear c9
        try clear c11
        try clear c11b0
        try clear c12
        try clear c12b0
        try clear c13
        try clear c13b0
        try clear c13b1
        try clear hx296_0
        try clear hx296_1
        try clear hx296_2
        try clear hx297_0
        try clear hx297_1
        try clear hx297_2
        try clear hx298_0
        try clear hx298_1
        try clear hx298_2
        try clear hx299_0
        try clear hx299_1
        try clear hx299_2
        try clear hx300_0
        try clear hx300_1
        try clear hx300_2
        try clear hx301_0
        try clear hx301_1
        try clear hx301_2
        try clear hx302_0
        try clear hx302_1
        try clear hx302_2
        try clear p2
        try clear p296
        try clear p297
        try clear p298
        try clear p299
        try clear p3
        try clear p300
        try clear p301
        try clear p302
        try clear p6
        try clear q2
        try clear q296
        try clear q297
        try clear q298
        try clear q299
        try clear q3
        try clear q300
        try clear q301
        try clear q302
        obtain ⟨kq, x64_9, rfl, HA, HJ9, ⟨mc9, rfl⟩⟩ := hcut
        cases kq with
        | zero => exact absurd HA.out (by simp [grapevineref04_Right.j2])
        | succ kj9 =>
         have H := HA.out
         clear HA
         simp only [grapevineref04_Right.j2] at H
         by_cases c14 : x64_9 = true
         ·subst c14
          have H1 : (some false) = some r := by rw [if_pos rfl] at H; exact H
          clear H
          have H := H1
          clear H1
          obtain rfl := Option.some.inj H
          go_wp2
          repeat (go_quiet (fail); try go_wp2)
          go_ret
          exact ⟨by first | rfl | (simp; done) | (simp [*]; done), by repeat (first | exact Drawn0.refl _ | apply Drawn0.step)⟩
         ·replace c14 := Bool.eq_false_iff.mpr c14
          subst c14
          have H1 : (if x5_1 > 0 then (if 0 ≤ x5_1 then (if x5_1 < (l1.length : Int) then (if 0 ≤ (wrap64 (x5_1 - 1)) then (if (wrap64 (x5_1 - 1)) < (l1.length : Int) then (if ((rd_T51 l1 x5_1).f0) ≤ (wrap64 (((rd_T51 l1 (wrap64 (x5_1 - 1))).f0) + ((rd_T51 l1 (wrap64 (x5_1 - 1))).f1))) then (some false) else (grapevineref04_Right.l0 kj9 a0 l1 (wrap64 (x5_1 + 1)))) else (none)) else (none)) else (none)) else (none)) else (grapevineref04_Right.l0 kj9 a0 l1 (wrap64 (x5_1 + 1)))) = some r := by rw [if_neg (show ¬ (false = true) by decide)] at H; exact H
          clear H
          have H := H1
          clear H1
          by_cases c15 : x5_1 > 0
          ·rw [if_pos c15] at H
           have c15b0 : decide (0 < x5_1) = true := decide_eq_true c15
           clear c15
           by_cases c16 : 0 ≤ x5_1
           ·rw [if_pos c16] at H
            have c16b0 : decide (0 ≤ x5_1) = true := decide_eq_true c16
            clear c16
            by_cases c17 : x5_1 < (l1.length : Int)
            ·rw [if_pos c17] at H
             have c17b0 : decide (x5_1 < (l1.length : Int)) = true := decide_eq_true c17
             clear c17
             obtain ⟨ji18, hji18⟩ : ∃ j_ : Int, (wrap64 (x5_1 - 1)) = j_ := ⟨_, rfl⟩
             replace H : (if 0 ≤ (ji18) then (if (ji18) < (l1.length : Int) then (if ((rd_T51 l1 x5_1).f0) ≤ (wrap64 (((rd_T51 l1 (ji18)).f0) + ((rd_T51 l1 (ji18)).f1))) then (some false) else (grapevineref04_Right.l0 kj9 a0 l1 (wrap64 (x5_1 + 1)))) else (none)) else (none)) = some r := by first | (rw [hji18] at H; exact H) | (simp only [hji18] at H ⊢; exact H)
             have hji18w : (IntKind.i64.wrap (x5_1 - 1)) = ji18 := (i64_w _).trans hji18
             by_cases c19 : 0 ≤ (ji18)
             ·rw [if_pos c19] at H
              have c19b0 : decide (0 ≤ (ji18)) = true := decide_eq_true c19
              clear c19
              by_cases c20 : (ji18) < (l1.length : Int)
              ·rw [if_pos c20] at H
               have c20b0 : decide ((ji18) < (l1.length : Int)) = true := decide_eq_true c20
               clear c20
               by_cases c21 : ((rd_T51 l1 x5_1).f0) ≤ (wrap64 (((rd_T51 l1 (ji18)).f0) + ((rd_T51 l1 (ji18)).f1)))
               ·rw [if_pos c21] at H
                have c21b0 : decide (((rd_T51 l1 x5_1).f0) ≤ (wrap64 (((rd_T51 l1 (ji18)).f0) + ((rd_T51 l1 (ji18)).f1)))) = true := decide_eq_true c21
                clear c21
                obtain rfl := Option.some.inj H
                have p303 : 0 ≤ (x5_1 : Int) := of_decide_eq_true (by first | (with_reducible assumption) | assumption)
                have q303 : x5_1 < (l1.length : Int) := of_decide_eq_true (by first | (with_reducible assumption) | assumption)
                obtain ⟨ad303, A303_2, c303_2, e303, hx303_0, hx303_1, hx303_2, hl303_2, hi303_2⟩ := at_T51 HR1.out x5_1 p303 q303
                cases e303
                have HR303_2 := Aside0.mk hi303_2
                have HC303_2 := Aside0.mk hl303_2
                clear hi303_2 hl303_2
                replace p303 := eq_true p303
                replace q303 := eq_true q303
                have p304 : 0 ≤ ((ji18) : Int) := of_decide_eq_true (by first | (with_reducible assumption) | assumption)
                have q304 : (ji18) < (l1.length : Int) := of_decide_eq_true (by first | (with_reducible assumption) | assumption)
                obtain ⟨ad304, A304_2, c304_2, e304, hx304_0, hx304_1, hx304_2, hl304_2, hi304_2⟩ := at_T51 HR1.out (ji18) p304 q304
                obtain rfl : ad303 = ad304 := (by injection e304)
                have HR304_2 := Aside0.mk hi304_2
                have HC304_2 := Aside0.mk hl304_2
                clear hi304_2 hl304_2
                replace p304 := eq_true p304
                replace q304 := eq_true q304
                have p305 : 0 ≤ ((ji18) : Int) := of_decide_eq_true (by first | (with_reducible assumption) | assumption)
                have q305 : (ji18) < (l1.length : Int) := of_decide_eq_true (by first | (with_reducible assumption) | assumption)
                obtain ⟨ad305, A305_2, c305_2, e305, hx305_0, hx305_1, hx305_2, hl305_2, hi305_2⟩ := at_T51 HR1.out (ji18) p305 q305
                obtain rfl : ad303 = ad305 := (by injection e305)
                have HR305_2 := Aside0.mk hi305_2
                have HC305_2 := Aside0.mk hl305_2
                clear hi305_2 hl305_2
                replace p305 := eq_true p305
                replace q305 := eq_true q305
                have ea_ := Option.some.inj (hx304_2.symm.trans hx305_2)
                injection ea_ with ea_ en_ ec_
                subst ea_
                subst ec_
                clear en_
                go_wp2
                repeat (go_quiet (fail); try go_wp2)
                go_ret
                exact ⟨by first | rfl | (simp; done) | (simp only [← hji18] <;> (first | rfl | simp)) | (simp [*]; done), by repeat (first | exact Drawn0.refl _ | apply Drawn0.step)⟩
               ·rw [if_neg c21] at H
                have c21b0 : decide (((rd_T51 l1 x5_1).f0) ≤ (wrap64 (((rd_T51 l1 (ji18)).f0) + ((rd_T51 l1 (ji18)).f1)))) = false := decide_eq_false c21
                clear c21
                have H' := Aside0.mk H
                clear H
                have p303 : 0 ≤ (x5_1 : Int) := of_decide_eq_true (by first | (with_reducible assumption) | assumption)
                have q303 : x5_1 < (l1.length : Int) := of_decide_eq_true (by first | (with_reducible assumption) | assumption)
                obtain ⟨ad303, A303_2, c303_2, e303, hx303_0, hx303_1, hx303_2, hl303_2, hi303_2⟩ := at_T51 HR1.out x5_1 p303 q303
                cases e303
                have HR303_2 := Aside0.mk hi303_2
                have HC303_2 := Aside0.mk hl303_2
                clear hi303_2 hl303_2
                replace p303 := eq_true p303
                replace q303 := eq_true q303
                have p304 : 0 ≤ ((ji18) : Int) := of_decide_eq_true (by first | (with_reducible assumption) | assumption)
                have q304 : (ji18) < (l1.length : Int) := of_decide_eq_true (by first | (with_reducible assumption) | assumption)
                obtain ⟨ad304, A304_2, c304_2, e304, hx304_0, hx304_1, hx304_2, hl304_2, hi304_2⟩ := at_T51 HR1.out (ji18) p304 q304
                obtain rfl : ad303 = ad304 := (by injection e304)
                have HR304_2 := Aside0.mk hi304_2
                have HC304_2 := Aside0.mk hl304_2
                clear hi304_2 hl304_2
                replace p304 := eq_true p304
                replace q304 := eq_true q304
                have p305 : 0 ≤ ((ji18) : Int) := of_decide_eq_true (by first | (with_reducible assumption) | assumption)
                have q305 : (ji18) < (l1.length : Int) := of_decide_eq_true (by first | (with_reducible assumption) | assumption)
                obtain ⟨ad305, A305_2, c305_2, e305, hx305_0, hx305_1, hx305_2, hl305_2, hi305_2⟩ := at_T51 HR1.out (ji18) p305 q305
                obtain rfl : ad303 = ad305 := (by injection e305)
                have HR305_2 := Aside0.mk hi305_2
                have HC305_2 := Aside0.mk hl305_2
                clear hi305_2 hl305_2
                replace p305 := eq_true p305
                replace q305 := eq_true q305
                have ea_ := Option.some.inj (hx304_2.symm.trans hx305_2)
                injection ea_ with ea_ en_ ec_
                subst ea_
                subst ec_
                clear en_
                go_wp2
                repeat (go_quiet (fail); try go_wp2)
                go_roundg kj9
                case measure => have := HK1.out; have := HJ3.out; have := HJ9.out; omega
                case rel => exact ⟨(wrap64 (x5_1 + 1)), (by first | rfl | (simp; done) | (simp [*]; done)), H', ⟨by have := HK1.out; have := HJ3.out; have := HJ9.out; omega⟩, by repeat (first | exact Drawn0.refl _ | apply Drawn0.step)⟩
              ·rw [if_neg c20] at H
               exact absurd H (by simp)
             ·rw [if_neg c19] at H
              exact absurd H (by simp)
            ·rw [if_neg c17] at H
             exact absurd H (by simp)
           ·rw [if_neg c16] at H
            exact absurd H (by simp)
          ·rw [if_neg c15] at H
           have c15b0 : decide (0 < x5_1) = false := decide_eq_false c15
           clear c15
           have H' := Aside0.mk H
           clear H
           go_wp2
           repeat (go_quiet (fail); try go_wp2)
           go_roundg kj9
           case measure => have := HK1.out; have := HJ3.out; have := HJ9.out; omega
           case rel => exact ⟨(wrap64 (x5_1 + 1)), (by first | rfl | (simp; done) | (simp [*]; done)), H', ⟨by have := HK1.out; have := HJ3.out; have := HJ9.out; omega⟩, by repeat (first | exact Drawn0.refl _ | apply Drawn0.step)⟩
   ·rw [if_neg c3] at H
    have c3b0 : decide (x5_1 < (l1.length : Int)) = false := decide_eq_false c3
    clear c3
    obtain rfl := Option.some.inj H
    go_wp2
    repeat (go_quiet (fail); try go_wp2)
    go_ret
    exact ⟨by first | rfl | (simp; done) | (simp [*]; done), by repeat (first | exact Drawn0.refl _ | apply Drawn0.step)⟩

end Go.Proofs.Ytlabiajcohmjhaa.Pr
-- shrunk
