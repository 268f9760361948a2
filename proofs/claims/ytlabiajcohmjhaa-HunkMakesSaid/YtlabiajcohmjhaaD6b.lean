-- written by a program of this session's (a turned copy of the kit's printer); Lean checks it
import Derived.Test.YtlabiajcohmjhaaD0
namespace Go.Proofs.Ytlabiajcohmjhaa.Pr
open Go.RowKit Go.Proofs.YtlabiajcohmjhaaW.PrintWords Go.Proofs.YtlabiajcohmjhaaW.PrintLast Go.Proofs.YtlabiajcohmjhaaW.PrintMore
attribute [local go_sem] max2_int min2_int max_two min_two max_three min_three max_four min_four   -- for this text's walks alone
set_option linter.unusedVariables false
set_option linter.unusedSimpArgs false

def grapevineref04_Few.l0 : Nat → List (S51) → Int → Option (Bool)
 | 0, _, _ => none
 | k + 1, x0, x3 => if x3 < (x0.length : Int) then (if 0 ≤ x3 then (if ((rd_T51 x0 x3).f0) > 1048576 then (some false) else (if ((rd_T51 x0 x3).f1) > 1048576 then (some false) else (if (((rd_T51 x0 x3).f2).length : Int) > 20 then (some false) else (grapevineref04_Few.l0 k x0 (wrap64 (x3 + 1)))))) else (none)) else (some (decide ((x0.length : Int) ≤ 20)))
def grapevineref04_Few.f (k : Nat) (l0 : List (S51)) : Option (Bool) := grapevineref04_Few.l0 k l0 0
theorem grapevineref04_Few.mono_l : ∀ k, (∀ y0 y1, LeO (grapevineref04_Few.l0 k y0 y1) (grapevineref04_Few.l0 (k + 1) y0 y1))
 | 0 => fun _ _ r h => by simp [grapevineref04_Few.l0] at h
 | k + 1 => by
  have ih0 := grapevineref04_Few.mono_l k
  ·intro y0 y1
   unfold grapevineref04_Few.l0
   repeat' first
   | (with_reducible exact ih0 _ _)
   | (with_reducible exact LeO.refl _)
   | (with_reducible exact LeO.none _)
   | (with_reducible refine LeO.ite ?_ ?_)
   | (with_reducible refine LeO.bind ?_ (fun _ => ?_))
   | exact ih0 _ _
   | exact LeO.none _
   | refine LeO.ite ?_ ?_
   | refine LeO.bind ?_ (fun _ => ?_)
theorem grapevineref04_Few.mono : ∀ a0 k, LeO (grapevineref04_Few.f k a0) (grapevineref04_Few.f (k + 1) a0) := by
 intro a0 k
 have ih0 := grapevineref04_Few.mono_l k
 unfold grapevineref04_Few.f
 repeat' first
   | (with_reducible exact ih0 _ _)
   | (with_reducible exact LeO.refl _)
   | (with_reducible exact LeO.none _)
   | (with_reducible refine LeO.ite ?_ ?_)
   | (with_reducible refine LeO.bind ?_ (fun _ => ?_))
   | exact ih0 _ _
   | exact LeO.none _
   | refine LeO.ite ?_ ?_
   | refine LeO.bind ?_ (fun _ => ?_)
set_option maxHeartbeats 8000000 in
set_option maxRecDepth 100000 in
theorem grapevineref04_Few.calls (k : Nat) (A0 : Option Addr) (c0 : Nat) (l0 : List (S51)) (r : Bool) (w : World) (hr0 : Kd.C k51 w A0 l0.length l0) (hc0 : l0.length ≤ c0) (h : grapevineref04_Few.f k l0 = some r) :
  Calls Try.prog 10 #[.slice A0 l0.length c0] w fun e w' => e = .returned (.bool r) ∧ Drawn0 w w' := by
 have HR0 := Aside0.mk hr0
 have HC0 := Aside0.mk hc0
 clear hr0 hc0
 have H : (grapevineref04_Few.l0 k l0 0) = some r := h
 clear h
 have H' := Aside0.mk H
 clear H
 go_enter Try.func10, Try.ntmps10
 go_wp2
 go_loopg [3] k (fun kq v3 w' => ∃ (x3_1 : Int), v3 = .int .i64 x3_1 ∧ Aside0 (grapevineref04_Few.l0 kq l0 x3_1 = some r) ∧ Aside0 (kq ≤ k) ∧ Drawn0 w w')
 case atStart => exact ⟨(0), (by first | rfl | (simp; done) | (simp [*]; done)), H', ⟨Nat.le_refl _⟩, by repeat (first | exact Drawn0.refl _ | apply Drawn0.step)⟩
 case round =>
  clear H'
  try clear c1
  obtain ⟨x3_1, rfl, HA, HK1, ⟨m1, rfl⟩⟩ := hrel
  cases gk with
  | zero => exact absurd HA.out (by simp [grapevineref04_Few.l0])
  | succ k1 =>
   have H := HA.out
   clear HA
   simp only [grapevineref04_Few.l0] at H
   by_cases c2 : x3_1 < (l0.length : Int)
   ·rw [if_pos c2] at H
    have c2b0 : decide (x3_1 < (l0.length : Int)) = true := decide_eq_true c2
    clear c2
    by_cases c3 : 0 ≤ x3_1
    ·rw [if_pos c3] at H
     have c3b0 : decide (0 ≤ x3_1) = true := decide_eq_true c3
     clear c3
     by_cases c4 : ((rd_T51 l0 x3_1).f0) > 1048576
     ·rw [if_pos c4] at H
      have c4b0 : decide (1048576 < ((rd_T51 l0 x3_1).f0)) = true := decide_eq_true c4
      clear c4
      obtain rfl := Option.some.inj H
      have p293 : 0 ≤ (x3_1 : Int) := of_decide_eq_true (by first | (with_reducible assumption) | assumption)
      have q293 : x3_1 < (l0.length : Int) := of_decide_eq_true (by first | (with_reducible assumption) | assumption)
      obtain ⟨ad293, A293_2, c293_2, e293, hx293_0, hx293_1, hx293_2, hl293_2, hi293_2⟩ := at_T51 HR0.out x3_1 p293 q293
      cases e293
      have HR293_2 := Aside0.mk hi293_2
      have HC293_2 := Aside0.mk hl293_2
      clear hi293_2 hl293_2
      replace p293 := eq_true p293
      replace q293 := eq_true q293
      go_wp2
      go_ret
      exact ⟨by first | rfl | (simp; done) | (simp [*]; done), by repeat (first | exact Drawn0.refl _ | apply Drawn0.step)⟩
     ·rw [if_neg c4] at H
      have c4b0 : decide (1048576 < ((rd_T51 l0 x3_1).f0)) = false := decide_eq_false c4
      clear c4
      by_cases c5 : ((rd_T51 l0 x3_1).f1) > 1048576
      ·rw [if_pos c5] at H
       have c5b0 : decide (1048576 < ((rd_T51 l0 x3_1).f1)) = true := decide_eq_true c5
       clear c5
       obtain rfl := Option.some.inj H
       have p293 : 0 ≤ (x3_1 : Int) := of_decide_eq_true (by first | (with_reducible assumption) | assumption)
       have q293 : x3_1 < (l0.length : Int) := of_decide_eq_true (by first | (with_reducible assumption) | assumption)
       obtain ⟨ad293, A293_2, c293_2, e293, hx293_0, hx293_1, hx293_2, hl293_2, hi293_2⟩ := at_T51 HR0.out x3_1 p293 q293
       cases e293
       have HR293_2 := Aside0.mk hi293_2
       have HC293_2 := Aside0.mk hl293_2
       clear hi293_2 hl293_2
       replace p293 := eq_true p293
       replace q293 := eq_true q293
       have p294 : 0 ≤ (x3_1 : Int) := of_decide_eq_true (by first | (with_reducible assumption) | assumption)
       have q294 : x3_1 < (l0.length : Int) := of_decide_eq_true (by first | (with_reducible assumption) | assumption)
       obtain ⟨ad294, A294_2, c294_2, e294, hx294_0, hx294_1, hx294_2, hl294_2, hi294_2⟩ := at_T51 HR0.out x3_1 p294 q294
       obtain rfl : ad293 = ad294 := (by injection e294)
       have HR294_2 := Aside0.mk hi294_2
       have HC294_2 := Aside0.mk hl294_2
       clear hi294_2 hl294_2
       replace p294 := eq_true p294
       replace q294 := eq_true q294
       have ea_ := Option.some.inj (hx293_2.symm.trans hx294_2)
       injection ea_ with ea_ en_ ec_
       subst ea_
       subst ec_
       clear en_
       go_wp2
       go_ret
       exact ⟨by first | rfl | (simp; done) | (simp [*]; done), by repeat (first | exact Drawn0.refl _ | apply Drawn0.step)⟩
      ·rw [if_neg c5] at H
       have c5b0 : decide (1048576 < ((rd_T51 l0 x3_1).f1)) = false := decide_eq_false c5
       clear c5
       by_cases c6 : (((rd_T51 l0 x3_1).f2).length : Int) > 20
       ·rw [if_pos c6] at H
        have c6b0 : decide (20 < (((rd_T51 l0 x3_1).f2).length : Int)) = true := decide_eq_true c6
        have c6b1 : decide (20 < ((rd_T51 l0 x3_1).f2).length) = true := decide_eq_true (by omega)
        clear c6
        obtain rfl := Option.some.inj H
        have p293 : 0 ≤ (x3_1 : Int) := of_decide_eq_true (by first | (with_reducible assumption) | assumption)
        have q293 : x3_1 < (l0.length : Int) := of_decide_eq_true (by first | (with_reducible assumption) | assumption)
        obtain ⟨ad293, A293_2, c293_2, e293, hx293_0, hx293_1, hx293_2, hl293_2, hi293_2⟩ := at_T51 HR0.out x3_1 p293 q293
        cases e293
        have HR293_2 := Aside0.mk hi293_2
        have HC293_2 := Aside0.mk hl293_2
        clear hi293_2 hl293_2
        replace p293 := eq_true p293
        replace q293 := eq_true q293
        have p294 : 0 ≤ (x3_1 : Int) := of_decide_eq_true (by first | (with_reducible assumption) | assumption)
        have q294 : x3_1 < (l0.length : Int) := of_decide_eq_true (by first | (with_reducible assumption) | assumption)
        obtain ⟨ad294, A294_2, c294_2, e294, hx294_0, hx294_1, hx294_2, hl294_2, hi294_2⟩ := at_T51 HR0.out x3_1 p294 q294
        obtain rfl : ad293 = ad294 := (by injection e294)
        have HR294_2 := Aside0.mk hi294_2
        have HC294_2 := Aside0.mk hl294_2
        clear hi294_2 hl294_2
        replace p294 := eq_true p294
        replace q294 := eq_true q294
        have ea_ := Option.some.inj (hx293_2.symm.trans hx294_2)
        injection ea_ with ea_ en_ ec_
        subst ea_
        subst ec_
        clear en_
        have p295 : 0 ≤ (x3_1 : Int) := of_decide_eq_true (by first | (with_reducible assumption) | assumption)
        have q295 : x3_1 < (l0.length : Int) := of_decide_eq_true (by first | (with_reducible assumption) | assumption)
        obtain ⟨ad295, A295_2, c295_2, e295, hx295_0, hx295_1, hx295_2, hl295_2, hi295_2⟩ := at_T51 HR0.out x3_1 p295 q295
        obtain rfl : ad293 = ad295 := (by injection e295)
        have HR295_2 := Aside0.mk hi295_2
        have HC295_2 := Aside0.mk hl295_2
        clear hi295_2 hl295_2
        replace p295 := eq_true p295
        replace q295 := eq_true q295
        have ea_ := Option.some.inj (hx293_2.symm.trans hx295_2)
        injection ea_ with ea_ en_ ec_
        subst ea_
        subst ec_
        clear en_
        go_wp2
        go_ret
        exact ⟨by first | rfl | (simp; done) | (simp [*]; done), by repeat (first | exact Drawn0.refl _ | apply Drawn0.step)⟩
       ·rw [if_neg c6] at H
        have c6b0 : decide (20 < (((rd_T51 l0 x3_1).f2).length : Int)) = false := decide_eq_false c6
        have c6b1 : decide (20 < ((rd_T51 l0 x3_1).f2).length) = false := decide_eq_false (by omega)
        clear c6
        have H' := Aside0.mk H
        clear H
        have p293 : 0 ≤ (x3_1 : Int) := of_decide_eq_true (by first | (with_reducible assumption) | assumption)
        have q293 : x3_1 < (l0.length : Int) := of_decide_eq_true (by first | (with_reducible assumption) | assumption)
        obtain ⟨ad293, A293_2, c293_2, e293, hx293_0, hx293_1, hx293_2, hl293_2, hi293_2⟩ := at_T51 HR0.out x3_1 p293 q293
        cases e293
        have HR293_2 := Aside0.mk hi293_2
        have HC293_2 := Aside0.mk hl293_2
        clear hi293_2 hl293_2
        replace p293 := eq_true p293
        replace q293 := eq_true q293
        have p294 : 0 ≤ (x3_1 : Int) := of_decide_eq_true (by first | (with_reducible assumption) | assumption)
        have q294 : x3_1 < (l0.length : Int) := of_decide_eq_true (by first | (with_reducible assumption) | assumption)
        obtain ⟨ad294, A294_2, c294_2, e294, hx294_0, hx294_1, hx294_2, hl294_2, hi294_2⟩ := at_T51 HR0.out x3_1 p294 q294
        obtain rfl : ad293 = ad294 := (by injection e294)
        have HR294_2 := Aside0.mk hi294_2
        have HC294_2 := Aside0.mk hl294_2
        clear hi294_2 hl294_2
        replace p294 := eq_true p294
        replace q294 := eq_true q294
        have ea_ := Option.some.inj (hx293_2.symm.trans hx294_2)
        injection ea_ with ea_ en_ ec_
        subst ea_
        subst ec_
        clear en_
        have p295 : 0 ≤ (x3_1 : Int) := of_decide_eq_true (by first | (with_reducible assumption) | assumption)
        have q295 : x3_1 < (l0.length : Int) := of_decide_eq_true (by first | (with_reducible assumption) | assumption)
        obtain ⟨ad295, A295_2, c295_2, e295, hx295_0, hx295_1, hx295_2, hl295_2, hi295_2⟩ := at_T51 HR0.out x3_1 p295 q295
        obtain rfl : ad293 = ad295 := (by injection e295)
        have HR295_2 := Aside0.mk hi295_2
        have HC295_2 := Aside0.mk hl295_2
        clear hi295_2 hl295_2
        replace p295 := eq_true p295
        replace q295 := eq_true q295
        have ea_ := Option.some.inj (hx293_2.symm.trans hx295_2)
        injection ea_ with ea_ en_ ec_
        subst ea_
        subst ec_
        clear en_
        go_wp2
        go_roundg k1
        case measure => have := HK1.out; omega
        case rel => exact ⟨(wrap64 (x3_1 + 1)), (by first | rfl | (simp; done) | (simp [*]; done)), H', ⟨by have := HK1.out; omega⟩, by repeat (first | exact Drawn0.refl _ | apply Drawn0.step)⟩
    ·rw [if_neg c3] at H
     exact absurd H (by simp)
   ·rw [if_neg c2] at H
    have c2b0 : decide (x3_1 < (l0.length : Int)) = false := decide_eq_false c2
    clear c2
    obtain rfl := Option.some.inj H
    go_wp2
    go_ret
    exact ⟨by first | rfl | (simp; done) | (simp [*]; done), by repeat (first | exact Drawn0.refl _ | apply Drawn0.step)⟩

end Go.Proofs.Ytlabiajcohmjhaa.Pr
-- shrunk
