-- written by a program of this session's (a turned copy of the kit's printer); Lean checks it
import Derived.Test.YtplclofakoffmaaD0
namespace Go.Proofs.Ytplclofakoffmaa.Pr
open Go.RowKit Go.Proofs.YtplclofakoffmaaW.PrintWords Go.Proofs.YtplclofakoffmaaW.PrintLast Go.Proofs.YtplclofakoffmaaW.PrintMore
attribute [local go_sem] max2_int min2_int max_two min_two max_three min_three max_four min_four   -- for this text's walks alone
set_option linter.unusedVariables false
set_option linter.unusedSimpArgs false

/-! ### grapevineref03_Right: function 21 -/
mutual
def grapevineref03_Right.l0 : Nat → List ByteArray → Int → Option (Bool)
  | 0, _, _ => none
  | k + 1, x0, x3 => if x3 < (x0.length : Int) then (if 0 ≤ x3 then (if ((rdOf ByteArray.empty x0 x3).size : Int) = 0 then (some false) else (grapevineref03_Right.l1 k x0 x3 ((rdOf ByteArray.empty x0 x3).size : Int) 0)) else (none)) else (some true)
def grapevineref03_Right.l1 : Nat → List ByteArray → Int → Int → Int → Option (Bool)
  | 0, _, _, _, _ => none
  | k + 1, x0, x3, x4, x5 => if x5 < (wrap64 (x4 - 1)) then (if 0 ≤ x3 then (if x3 < (x0.length : Int) then (if 0 ≤ x5 then (if x5 < ((rdOf ByteArray.empty x0 x3).size : Int) then (if (bt (rdOf ByteArray.empty x0 x3) x5) = 10 then (some false) else (grapevineref03_Right.l1 k x0 x3 x4 (wrap64 (x5 + 1)))) else (none)) else (none)) else (none)) else (none)) else (if x3 < (wrap64 ((x0.length : Int) - 1)) then (if 0 ≤ x3 then (if x3 < (x0.length : Int) then (if 0 ≤ (wrap64 (x4 - 1)) then (if (wrap64 (x4 - 1)) < ((rdOf ByteArray.empty x0 x3).size : Int) then (if (bt (rdOf ByteArray.empty x0 x3) (wrap64 (x4 - 1))) = 10 then (grapevineref03_Right.l0 k x0 (wrap64 (x3 + 1))) else (some false)) else (none)) else (none)) else (none)) else (none)) else (grapevineref03_Right.l0 k x0 (wrap64 (x3 + 1))))
end
def grapevineref03_Right.f (k : Nat) (l0 : List ByteArray) : Option (Bool) := grapevineref03_Right.l0 k l0 0
theorem grapevineref03_Right.mono_l : ∀ k, (∀ y0 y1, LeO (grapevineref03_Right.l0 k y0 y1) (grapevineref03_Right.l0 (k + 1) y0 y1)) ∧ (∀ y0 y1 y2 y3, LeO (grapevineref03_Right.l1 k y0 y1 y2 y3) (grapevineref03_Right.l1 (k + 1) y0 y1 y2 y3))
  | 0 => ⟨fun _ _ r h => by simp [grapevineref03_Right.l0] at h, fun _ _ _ _ r h => by simp [grapevineref03_Right.l1] at h⟩
  | k + 1 => by
    obtain ⟨ih0, ih1⟩ := grapevineref03_Right.mono_l k
    refine ⟨?_, ?_⟩
    · intro y0 y1
      unfold grapevineref03_Right.l0
      repeat' first
      | (with_reducible exact ih0 _ _)
      | (with_reducible exact ih1 _ _ _ _)
      | (with_reducible exact LeO.refl _)
      | (with_reducible exact LeO.none _)
      | (with_reducible refine LeO.ite ?_ ?_)
      | (with_reducible refine LeO.bind ?_ (fun _ => ?_))
      | exact ih0 _ _
      | exact ih1 _ _ _ _
      | exact LeO.none _
      | refine LeO.ite ?_ ?_
      | refine LeO.bind ?_ (fun _ => ?_)
    · intro y0 y1 y2 y3
      unfold grapevineref03_Right.l1
      repeat' first
      | (with_reducible exact ih0 _ _)
      | (with_reducible exact ih1 _ _ _ _)
      | (with_reducible exact LeO.refl _)
      | (with_reducible exact LeO.none _)
      | (with_reducible refine LeO.ite ?_ ?_)
      | (with_reducible refine LeO.bind ?_ (fun _ => ?_))
      | exact ih0 _ _
      | exact ih1 _ _ _ _
      | exact LeO.none _
      | refine LeO.ite ?_ ?_
      | refine LeO.bind ?_ (fun _ => ?_)
theorem grapevineref03_Right.mono : ∀ a0 k, LeO (grapevineref03_Right.f k a0) (grapevineref03_Right.f (k + 1) a0) := by
  intro a0 k
  obtain ⟨ih0, ih1⟩ := grapevineref03_Right.mono_l k
  unfold grapevineref03_Right.f
  repeat' first
      | (with_reducible exact ih0 _ _)
      | (with_reducible exact ih1 _ _ _ _)
      | (with_reducible exact LeO.refl _)
      | (with_reducible exact LeO.none _)
      | (with_reducible refine LeO.ite ?_ ?_)
      | (with_reducible refine LeO.bind ?_ (fun _ => ?_))
      | exact ih0 _ _
      | exact ih1 _ _ _ _
      | exact LeO.none _
      | refine LeO.ite ?_ ?_
      | refine LeO.bind ?_ (fun _ => ?_)
set_option maxHeartbeats 8000000 in
set_option maxRecDepth 100000 in
theorem grapevineref03_Right.calls (k : Nat) (A0 : Option Addr) (c0 : Nat) (l0 : List ByteArray) (r : Bool) (w : World) (hr0 : Kd.C Kd.string w A0 l0.length l0) (hc0 : l0.length ≤ c0) (h : grapevineref03_Right.f k l0 = some r) :
    Calls Try.prog 21 #[.slice A0 l0.length c0] w fun e w' => e = .returned (.bool r) ∧ Drawn0 w w' := by
  have HR0 := Aside0.mk hr0
  have HC0 := Aside0.mk hc0
  clear hr0 hc0
  have H : (grapevineref03_Right.l0 k l0 0) = some r := h
  clear h
  have H' := Aside0.mk H
  clear H
  go_enter Try.func21, Try.ntmps21
  go_wp2
  go_loopg [3] k (fun kq v3 w' => ∃ (x3_1 : Int), v3 = .int .i64 x3_1 ∧ Aside0 (grapevineref03_Right.l0 kq l0 x3_1 = some r) ∧ Aside0 (kq ≤ k) ∧ Drawn0 w w')
  case atStart => exact ⟨(0), (by first | rfl | (simp; done) | (simp [*]; done)), H', ⟨Nat.le_refl _⟩, by repeat (first | exact Drawn0.refl _ | apply Drawn0.step)⟩
  case round =>
    clear H'
    obtain ⟨x3_1, rfl, HA, HK1, ⟨m1, rfl⟩⟩ := hrel
    cases gk with
    | zero => exact absurd HA.out (by simp [grapevineref03_Right.l0])
    | succ k1 =>
      have H := HA.out
      clear HA
      simp only [grapevineref03_Right.l0] at H
      by_cases c2 : x3_1 < (l0.length : Int)
      · rw [if_pos c2] at H
        have c2b0 : decide (x3_1 < (l0.length : Int)) = true := decide_eq_true c2
        clear c2
        by_cases c3 : 0 ≤ x3_1
        · rw [if_pos c3] at H
          have c3b0 : decide (0 ≤ x3_1) = true := decide_eq_true c3
          clear c3
          by_cases c4 : ((rdOf ByteArray.empty l0 x3_1).size : Int) = 0
          · rw [if_pos c4] at H
            have c4b0 : (((rdOf ByteArray.empty l0 x3_1).size : Int) == 0) = true := beq_iff_eq.mpr c4
            have c4b1 : (((rdOf ByteArray.empty l0 x3_1).size : Int) != 0) = false := bne_eq_false_iff_eq.mpr c4
            clear c4
            obtain rfl := Option.some.inj H
            have p152 : 0 ≤ (x3_1 : Int) := of_decide_eq_true (by first | (with_reducible assumption) | assumption)
            have q152 : x3_1 < (l0.length : Int) := of_decide_eq_true (by first | (with_reducible assumption) | assumption)
            obtain ⟨ad152, e152, hx152_0⟩ := Kd.at_string HR0.out x3_1 p152 q152
            cases e152
            replace p152 := eq_true p152
            replace q152 := eq_true q152
            go_wp2
            go_ret
            exact ⟨by first | rfl | (simp; done) | (simp [*]; done), by repeat (first | exact Drawn0.refl _ | apply Drawn0.step)⟩
          · rw [if_neg c4] at H
            have c4b0 : (((rdOf ByteArray.empty l0 x3_1).size : Int) == 0) = false := beq_eq_false_iff_ne.mpr c4
            have c4b1 : (((rdOf ByteArray.empty l0 x3_1).size : Int) != 0) = true := bne_iff_ne.mpr c4
            have H' := Aside0.mk H
            clear H
            have p152 : 0 ≤ (x3_1 : Int) := of_decide_eq_true (by first | (with_reducible assumption) | assumption)
            have q152 : x3_1 < (l0.length : Int) := of_decide_eq_true (by first | (with_reducible assumption) | assumption)
            obtain ⟨ad152, e152, hx152_0⟩ := Kd.at_string HR0.out x3_1 p152 q152
            cases e152
            replace p152 := eq_true p152
            replace q152 := eq_true q152
            go_wp2
            go_loopg [5] k1 (fun kq v5 w' => ∃ (x5_2 : Int), v5 = .int .i64 x5_2 ∧ Aside0 (grapevineref03_Right.l1 kq l0 x3_1 ((rdOf ByteArray.empty l0 x3_1).size : Int) x5_2 = some r) ∧ Aside0 (kq ≤ k1) ∧ Drawn0 w w')
            case atStart => exact ⟨(0), (by first | rfl | (simp; done) | (simp [*]; done)), H', ⟨Nat.le_refl _⟩, by repeat (first | exact Drawn0.refl _ | apply Drawn0.step)⟩
            case round =>
              clear H'
              try clear p1
              try clear q1
              try clear hx1
              try clear c2
              try clear c2b0
              try clear p2
              try clear c3
              try clear c3b0
              try clear c4
              try clear c4b0
              try clear c4b1
              try clear hx152_0
              try clear p152
              try clear q152
              obtain ⟨x5_2, rfl, HA, HK2, ⟨m2, rfl⟩⟩ := hrel
              cases gk with
              | zero => exact absurd HA.out (by simp [grapevineref03_Right.l1])
              | succ k2 =>
                have H := HA.out
                clear HA
                simp only [grapevineref03_Right.l1] at H
                by_cases c5 : x5_2 < (wrap64 (((rdOf ByteArray.empty l0 x3_1).size : Int) - 1))
                · rw [if_pos c5] at H
                  have c5b0 : decide (x5_2 < (wrap64 (((rdOf ByteArray.empty l0 x3_1).size : Int) - 1))) = true := decide_eq_true c5
                  clear c5
                  by_cases c6 : 0 ≤ x3_1
                  · rw [if_pos c6] at H
                    have c6b0 : decide (0 ≤ x3_1) = true := decide_eq_true c6
                    clear c6
                    by_cases c7 : x3_1 < (l0.length : Int)
                    · rw [if_pos c7] at H
                      have c7b0 : decide (x3_1 < (l0.length : Int)) = true := decide_eq_true c7
                      clear c7
                      by_cases c8 : 0 ≤ x5_2
                      · rw [if_pos c8] at H
                        have c8b0 : decide (0 ≤ x5_2) = true := decide_eq_true c8
                        clear c8
                        by_cases c9 : x5_2 < ((rdOf ByteArray.empty l0 x3_1).size : Int)
                        · rw [if_pos c9] at H
                          have c9b0 : decide (x5_2 < ((rdOf ByteArray.empty l0 x3_1).size : Int)) = true := decide_eq_true c9
                          clear c9
                          by_cases c11 : (bt (rdOf ByteArray.empty l0 x3_1) x5_2) = 10
                          · rw [if_pos c11] at H
                            have c11b0 : ((bt (rdOf ByteArray.empty l0 x3_1) x5_2) == 10) = true := beq_iff_eq.mpr c11
                            have c11b1 : ((bt (rdOf ByteArray.empty l0 x3_1) x5_2) != 10) = false := bne_eq_false_iff_eq.mpr c11
                            clear c11
                            obtain rfl := Option.some.inj H
                            have p153 : 0 ≤ (x3_1 : Int) := of_decide_eq_true (by first | (with_reducible assumption) | assumption)
                            have q153 : x3_1 < (l0.length : Int) := of_decide_eq_true (by first | (with_reducible assumption) | assumption)
                            obtain ⟨ad153, e153, hx153_0⟩ := Kd.at_string HR0.out x3_1 p153 q153
                            obtain rfl : ad152 = ad153 := (by injection e153)
                            replace p153 := eq_true p153
                            replace q153 := eq_true q153
                            have p10 : 0 ≤ (x5_2 : Int) := of_decide_eq_true (by first | (with_reducible assumption) | assumption)
                            have q10 : x5_2 < ((rdOf ByteArray.empty l0 x3_1).size : Int) := of_decide_eq_true (by first | (with_reducible assumption) | assumption)
                            have hx10 := bt_at (rdOf ByteArray.empty l0 x3_1) x5_2
                            replace p10 := eq_true p10
                            replace q10 := eq_true q10
                            go_wp2
                            go_ret
                            exact ⟨by first | rfl | (simp; done) | (simp [*]; done), by repeat (first | exact Drawn0.refl _ | apply Drawn0.step)⟩
                          · rw [if_neg c11] at H
                            have c11b0 : ((bt (rdOf ByteArray.empty l0 x3_1) x5_2) == 10) = false := beq_eq_false_iff_ne.mpr c11
                            have c11b1 : ((bt (rdOf ByteArray.empty l0 x3_1) x5_2) != 10) = true := bne_iff_ne.mpr c11
                            have H' := Aside0.mk H
                            clear H
                            have p153 : 0 ≤ (x3_1 : Int) := of_decide_eq_true (by first | (with_reducible assumption) | assumption)
                            have q153 : x3_1 < (l0.length : Int) := of_decide_eq_true (by first | (with_reducible assumption) | assumption)
                            obtain ⟨ad153, e153, hx153_0⟩ := Kd.at_string HR0.out x3_1 p153 q153
                            obtain rfl : ad152 = ad153 := (by injection e153)
                            replace p153 := eq_true p153
                            replace q153 := eq_true q153
                            have p10 : 0 ≤ (x5_2 : Int) := of_decide_eq_true (by first | (with_reducible assumption) | assumption)
                            have q10 : x5_2 < ((rdOf ByteArray.empty l0 x3_1).size : Int) := of_decide_eq_true (by first | (with_reducible assumption) | assumption)
                            have hx10 := bt_at (rdOf ByteArray.empty l0 x3_1) x5_2
                            replace p10 := eq_true p10
                            replace q10 := eq_true q10
                            go_wp2
                            go_roundg k2
                            case measure => have := HK1.out; have := HK2.out; omega
                            case rel => exact ⟨(wrap64 (x5_2 + 1)), (by first | rfl | (simp; done) | (simp [*]; done)), H', ⟨by have := HK1.out; have := HK2.out; omega⟩, by repeat (first | exact Drawn0.refl _ | apply Drawn0.step)⟩
                        · rw [if_neg c9] at H
                          exact absurd H (by simp)
                      · rw [if_neg c8] at H
                        exact absurd H (by simp)
                    · rw [if_neg c7] at H
                      exact absurd H (by simp)
                  · rw [if_neg c6] at H
                    exact absurd H (by simp)
                · rw [if_neg c5] at H
                  have c5b0 : decide (x5_2 < (wrap64 (((rdOf ByteArray.empty l0 x3_1).size : Int) - 1))) = false := decide_eq_false c5
                  clear c5
                  by_cases c12 : x3_1 < (wrap64 ((l0.length : Int) - 1))
                  · rw [if_pos c12] at H
                    have c12b0 : decide (x3_1 < (wrap64 ((l0.length : Int) - 1))) = true := decide_eq_true c12
                    clear c12
                    by_cases c13 : 0 ≤ x3_1
                    · rw [if_pos c13] at H
                      have c13b0 : decide (0 ≤ x3_1) = true := decide_eq_true c13
                      clear c13
                      by_cases c14 : x3_1 < (l0.length : Int)
                      · rw [if_pos c14] at H
                        have c14b0 : decide (x3_1 < (l0.length : Int)) = true := decide_eq_true c14
                        clear c14
                        obtain ⟨ji15, hji15⟩ : ∃ j_ : Int, (wrap64 (((rdOf ByteArray.empty l0 x3_1).size : Int) - 1)) = j_ := ⟨_, rfl⟩
                        replace H : (if 0 ≤ (ji15) then (if (ji15) < ((rdOf ByteArray.empty l0 x3_1).size : Int) then (if (bt (rdOf ByteArray.empty l0 x3_1) (ji15)) = 10 then (grapevineref03_Right.l0 k2 l0 (wrap64 (x3_1 + 1))) else (some false)) else (none)) else (none)) = some r := by first | (rw [hji15] at H; exact H) | (simp only [hji15] at H ⊢; exact H)
                        (try rw [hji15] at c5b0)
                        have hji15w : (IntKind.i64.wrap (((rdOf ByteArray.empty l0 x3_1).size : Int) - 1)) = ji15 := (i64_w _).trans hji15
                        by_cases c16 : 0 ≤ (ji15)
                        · rw [if_pos c16] at H
                          have c16b0 : decide (0 ≤ (ji15)) = true := decide_eq_true c16
                          clear c16
                          by_cases c17 : (ji15) < ((rdOf ByteArray.empty l0 x3_1).size : Int)
                          · rw [if_pos c17] at H
                            have c17b0 : decide ((ji15) < ((rdOf ByteArray.empty l0 x3_1).size : Int)) = true := decide_eq_true c17
                            clear c17
                            by_cases c19 : (bt (rdOf ByteArray.empty l0 x3_1) (ji15)) = 10
                            · rw [if_pos c19] at H
                              have c19b0 : ((bt (rdOf ByteArray.empty l0 x3_1) (ji15)) == 10) = true := beq_iff_eq.mpr c19
                              have c19b1 : ((bt (rdOf ByteArray.empty l0 x3_1) (ji15)) != 10) = false := bne_eq_false_iff_eq.mpr c19
                              clear c19
                              have H' := Aside0.mk H
                              clear H
                              have p154 : 0 ≤ (x3_1 : Int) := of_decide_eq_true (by first | (with_reducible assumption) | assumption)
                              have q154 : x3_1 < (l0.length : Int) := of_decide_eq_true (by first | (with_reducible assumption) | assumption)
                              obtain ⟨ad154, e154, hx154_0⟩ := Kd.at_string HR0.out x3_1 p154 q154
                              obtain rfl : ad152 = ad154 := (by injection e154)
                              replace p154 := eq_true p154
                              replace q154 := eq_true q154
                              have p18 : 0 ≤ ((ji15) : Int) := of_decide_eq_true (by first | (with_reducible assumption) | assumption)
                              have q18 : (ji15) < ((rdOf ByteArray.empty l0 x3_1).size : Int) := of_decide_eq_true (by first | (with_reducible assumption) | assumption)
                              have hx18 := bt_at (rdOf ByteArray.empty l0 x3_1) (ji15)
                              replace p18 := eq_true p18
                              replace q18 := eq_true q18
                              go_wp2
                              go_roundg k2
                              case measure => have := HK1.out; have := HK2.out; omega
                              case rel => exact ⟨(wrap64 (x3_1 + 1)), (by first | rfl | (simp; done) | (simp [*]; done)), H', ⟨by have := HK1.out; have := HK2.out; omega⟩, by repeat (first | exact Drawn0.refl _ | apply Drawn0.step)⟩
                            · rw [if_neg c19] at H
                              have c19b0 : ((bt (rdOf ByteArray.empty l0 x3_1) (ji15)) == 10) = false := beq_eq_false_iff_ne.mpr c19
                              have c19b1 : ((bt (rdOf ByteArray.empty l0 x3_1) (ji15)) != 10) = true := bne_iff_ne.mpr c19
                              obtain rfl := Option.some.inj H
                              have p154 : 0 ≤ (x3_1 : Int) := of_decide_eq_true (by first | (with_reducible assumption) | assumption)
                              have q154 : x3_1 < (l0.length : Int) := of_decide_eq_true (by first | (with_reducible assumption) | assumption)
                              obtain ⟨ad154, e154, hx154_0⟩ := Kd.at_string HR0.out x3_1 p154 q154
                              obtain rfl : ad152 = ad154 := (by injection e154)
                              replace p154 := eq_true p154
                              replace q154 := eq_true q154
                              have p18 : 0 ≤ ((ji15) : Int) := of_decide_eq_true (by first | (with_reducible assumption) | assumption)
                              have q18 : (ji15) < ((rdOf ByteArray.empty l0 x3_1).size : Int) := of_decide_eq_true (by first | (with_reducible assumption) | assumption)
                              have hx18 := bt_at (rdOf ByteArray.empty l0 x3_1) (ji15)
                              replace p18 := eq_true p18
                              replace q18 := eq_true q18
                              go_wp2
                              go_ret
                              exact ⟨by first | rfl | (simp; done) | (simp only [← hji15] <;> (first | rfl | simp)) | (simp [*]; done), by repeat (first | exact Drawn0.refl _ | apply Drawn0.step)⟩
                          · rw [if_neg c17] at H
                            exact absurd H (by simp)
                        · rw [if_neg c16] at H
                          exact absurd H (by simp)
                      · rw [if_neg c14] at H
                        exact absurd H (by simp)
                    · rw [if_neg c13] at H
                      exact absurd H (by simp)
                  · rw [if_neg c12] at H
                    have c12b0 : decide (x3_1 < (wrap64 ((l0.length : Int) - 1))) = false := decide_eq_false c12
                    clear c12
                    have H' := Aside0.mk H
                    clear H
                    go_wp2
                    go_roundg k2
                    case measure => have := HK1.out; have := HK2.out; omega
                    case rel => exact ⟨(wrap64 (x3_1 + 1)), (by first | rfl | (simp; done) | (simp [*]; done)), H', ⟨by have := HK1.out; have := HK2.out; omega⟩, by repeat (first | exact Drawn0.refl _ | apply Drawn0.step)⟩
        · rw [if_neg c3] at H
          exact absurd H (by simp)
      · rw [if_neg c2] at H
        have c2b0 : decide (x3_1 < (l0.length : Int)) = false := decide_eq_false c2
        clear c2
        obtain rfl := Option.some.inj H
        go_wp2
        go_ret
        exact ⟨by first | rfl | (simp; done) | (simp [*]; done), by repeat (first | exact Drawn0.refl _ | apply Drawn0.step)⟩

end Go.Proofs.Ytplclofakoffmaa.Pr
