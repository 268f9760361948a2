-- written by a program of this session's (a turned copy of the kit's printer); Lean checks it
import Derived.Test.YtlabiajcohmjhaaD0
namespace Go.Proofs.Ytlabiajcohmjhaa.Pr
open Go.RowKit Go.Proofs.YtlabiajcohmjhaaW.PrintWords Go.Proofs.YtlabiajcohmjhaaW.PrintLast Go.Proofs.YtlabiajcohmjhaaW.PrintMore
attribute [local go_sem] max2_int min2_int max_two min_two max_three min_three max_four min_four   -- for this text's walks alone
set_option linter.unusedVariables false
set_option linter.unusedSimpArgs false

def grapevineref05_Many.l0 : Nat → List ByteArray → Int → Int → Int → Option (Int)
 | 0, _, _, _, _ => none
 | k + 1, x0, x1, x5, x6 => if x6 < (x0.length : Int) then (if 0 ≤ x6 then (if ((rdOf ByteArray.empty x0 x6).size : Int) > 0 then (if 0 < ((rdOf ByteArray.empty x0 x6).size : Int) then (if (bt (rdOf ByteArray.empty x0 x6) 0) = 32 then (grapevineref05_Many.l0 k x0 x1 (wrap64 (x5 + 1)) (wrap64 (x6 + 1))) else (if (bt (rdOf ByteArray.empty x0 x6) 0) = x1 then (grapevineref05_Many.l0 k x0 x1 (wrap64 (x5 + 1)) (wrap64 (x6 + 1))) else (grapevineref05_Many.l0 k x0 x1 x5 (wrap64 (x6 + 1))))) else (none)) else (grapevineref05_Many.l0 k x0 x1 x5 (wrap64 (x6 + 1)))) else (none)) else (some x5)
def grapevineref05_Many.f (k : Nat) (l0 : List ByteArray) (a1 : Int) : Option (Int) := grapevineref05_Many.l0 k l0 a1 0 0
theorem grapevineref05_Many.mono_l : ∀ k, (∀ y0 y1 y2 y3, LeO (grapevineref05_Many.l0 k y0 y1 y2 y3) (grapevineref05_Many.l0 (k + 1) y0 y1 y2 y3))
 | 0 => fun _ _ _ _ r h => by simp [grapevineref05_Many.l0] at h
 | k + 1 => by
  have ih0 := grapevineref05_Many.mono_l k
  ·intro y0 y1 y2 y3
   unfold grapevineref05_Many.l0
   repeat' first
   | (with_reducible exact ih0 _ _ _ _)
   | (with_reducible exact LeO.refl _)
   | (with_reducible exact LeO.none _)
   | (with_reducible refine LeO.ite ?_ ?_)
   | (with_reducible refine LeO.bind ?_ (fun _ => ?_))
   | exact ih0 _ _ _ _
   | exact LeO.none _
   | refine LeO.ite ?_ ?_
   | refine LeO.bind ?_ (fun _ => ?_)
theorem grapevineref05_Many.mono : ∀ a0 a1 k, LeO (grapevineref05_Many.f k a0 a1) (grapevineref05_Many.f (k + 1) a0 a1) := by
 intro a0 a1 k
 have ih0 := grapevineref05_Many.mono_l k
 unfold grapevineref05_Many.f
 repeat' first
   | (with_reducible exact ih0 _ _ _ _)
   | (with_reducible exact LeO.refl _)
   | (with_reducible exact LeO.none _)
   | (with_reducible refine LeO.ite ?_ ?_)
   | (with_reducible refine LeO.bind ?_ (fun _ => ?_))
   | exact ih0 _ _ _ _
   | exact LeO.none _
   | refine LeO.ite ?_ ?_
   | refine LeO.bind ?_ (fun _ => ?_)
set_option maxHeartbeats 8000000 in
set_option maxRecDepth 100000 in
theorem grapevineref05_Many.calls (k : Nat) (A0 : Option Addr) (c0 : Nat) (l0 : List ByteArray) (a1 : Int) (r : Int) (w : World) (hr0 : Kd.C Kd.string w A0 l0.length l0) (hc0 : l0.length ≤ c0) (h : grapevineref05_Many.f k l0 a1 = some r) :
  Calls Try.prog 31 #[.slice A0 l0.length c0, .int .u8 a1] w fun e w' => e = .returned (.int .i64 r) ∧ Drawn0 w w' := by
 have HR0 := Aside0.mk hr0
 have HC0 := Aside0.mk hc0
 clear hr0 hc0
 have H : (grapevineref05_Many.l0 k l0 a1 0 0) = some r := h
 clear h
 have H' := Aside0.mk H
 clear H
 go_enter Try.func31, Try.ntmps31
 go_wp2
 go_loopg [5, 6] k (fun kq v5 v6 w' => ∃ (x5_1 : Int) (x6_1 : Int), v5 = .int .i64 x5_1 ∧ v6 = .int .i64 x6_1 ∧ Aside0 (grapevineref05_Many.l0 kq l0 a1 x5_1 x6_1 = some r) ∧ Aside0 (kq ≤ k) ∧ Drawn0 w w')
 case atStart => exact ⟨(0), (0), (by first | rfl | (simp; done) | (simp [*]; done)), (by first | rfl | (simp; done) | (simp [*]; done)), H', ⟨Nat.le_refl _⟩, by repeat (first | exact Drawn0.refl _ | apply Drawn0.step)⟩
 case round =>
  clear H'
  try clear p2
  obtain ⟨x5_1, x6_1, rfl, rfl, HA, HK1, ⟨m1, rfl⟩⟩ := hrel
  cases gk with
  | zero => exact absurd HA.out (by simp [grapevineref05_Many.l0])
  | succ k1 =>
   have H := HA.out
   clear HA
   simp only [grapevineref05_Many.l0] at H
   by_cases c3 : x6_1 < (l0.length : Int)
   ·rw [if_pos c3] at H
    have c3b0 : decide (x6_1 < (l0.length : Int)) = true := decide_eq_true c3
    clear c3
    by_cases c4 : 0 ≤ x6_1
    ·rw [if_pos c4] at H
     have c4b0 : decide (0 ≤ x6_1) = true := decide_eq_true c4
     clear c4
     by_cases c5 : ((rdOf ByteArray.empty l0 x6_1).size : Int) > 0
     ·rw [if_pos c5] at H
      have c5b0 : decide (0 < ((rdOf ByteArray.empty l0 x6_1).size : Int)) = true := decide_eq_true c5
      have c5b1 : decide (0 < (rdOf ByteArray.empty l0 x6_1).size) = true := decide_eq_true (by omega)
      clear c5
      by_cases c6 : 0 < ((rdOf ByteArray.empty l0 x6_1).size : Int)
      ·rw [if_pos c6] at H
       have c6b0 : decide (0 < ((rdOf ByteArray.empty l0 x6_1).size : Int)) = true := decide_eq_true c6
       have c6b1 : decide (0 < (rdOf ByteArray.empty l0 x6_1).size) = true := decide_eq_true (by omega)
       clear c6
       by_cases c8 : (bt (rdOf ByteArray.empty l0 x6_1) 0) = 32
       ·rw [if_pos c8] at H
        have c8b0 : ((bt (rdOf ByteArray.empty l0 x6_1) 0) == 32) = true := beq_iff_eq.mpr c8
        have c8b1 : ((bt (rdOf ByteArray.empty l0 x6_1) 0) != 32) = false := bne_eq_false_iff_eq.mpr c8
        clear c8
        have H' := Aside0.mk H
        clear H
        have p306 : 0 ≤ (x6_1 : Int) := of_decide_eq_true (by first | (with_reducible assumption) | assumption)
        have q306 : x6_1 < (l0.length : Int) := of_decide_eq_true (by first | (with_reducible assumption) | assumption)
        obtain ⟨ad306, e306, hx306_0⟩ := Kd.at_string HR0.out x6_1 p306 q306
        cases e306
        replace p306 := eq_true p306
        replace q306 := eq_true q306
        have p307 : 0 ≤ (x6_1 : Int) := of_decide_eq_true (by first | (with_reducible assumption) | assumption)
        have q307 : x6_1 < (l0.length : Int) := of_decide_eq_true (by first | (with_reducible assumption) | assumption)
        obtain ⟨ad307, e307, hx307_0⟩ := Kd.at_string HR0.out x6_1 p307 q307
        obtain rfl : ad306 = ad307 := (by injection e307)
        replace p307 := eq_true p307
        replace q307 := eq_true q307
        have p7 : 0 ≤ (0 : Int) := (by omega)
        have q7 : 0 < (rdOf ByteArray.empty l0 x6_1).size := (by have : (0 : Int) < ((rdOf ByteArray.empty l0 x6_1).size : Int) := of_decide_eq_true (by first | (with_reducible assumption) | assumption); omega)
        have hx7 : ∀ h : 0 < (rdOf ByteArray.empty l0 x6_1).size, (((rdOf ByteArray.empty l0 x6_1)[0]'h).toNat : Int) = bt (rdOf ByteArray.empty l0 x6_1) 0 := bt_at (rdOf ByteArray.empty l0 x6_1) 0
        clear p7
        have qi7 : (0 < ((rdOf ByteArray.empty l0 x6_1).size : Int)) = True := eq_true (of_decide_eq_true (by first | (with_reducible assumption) | assumption))
        replace q7 := eq_true q7
        go_wp2
        go_roundg k1
        case measure => have := HK1.out; omega
        case rel => exact ⟨(wrap64 (x5_1 + 1)), (wrap64 (x6_1 + 1)), (by first | rfl | (simp; done) | (simp [*]; done)), (by first | rfl | (simp; done) | (simp [*]; done)), H', ⟨by have := HK1.out; omega⟩, by repeat (first | exact Drawn0.refl _ | apply Drawn0.step)⟩
       ·rw [if_neg c8] at H
        have c8b0 : ((bt (rdOf ByteArray.empty l0 x6_1) 0) == 32) = false := beq_eq_false_iff_ne.mpr c8
        have c8b1 : ((bt (rdOf ByteArray.empty l0 x6_1) 0) != 32) = true := bne_iff_ne.mpr c8
        by_cases c10 : (bt (rdOf ByteArray.empty l0 x6_1) 0) = a1
        ·rw [if_pos c10] at H
         have c10b0 : ((bt (rdOf ByteArray.empty l0 x6_1) 0) == a1) = true := beq_iff_eq.mpr c10
         have c10b1 : ((bt (rdOf ByteArray.empty l0 x6_1) 0) != a1) = false := bne_eq_false_iff_eq.mpr c10
         clear c10
         have H' := Aside0.mk H
         clear H
         have p306 : 0 ≤ (x6_1 : Int) := of_decide_eq_true (by first | (with_reducible assumption) | assumption)
         have q306 : x6_1 < (l0.length : Int) := of_decide_eq_true (by first | (with_reducible assumption) | assumption)
         obtain ⟨ad306, e306, hx306_0⟩ := Kd.at_string HR0.out x6_1 p306 q306
         cases e306
         replace p306 := eq_true p306
         replace q306 := eq_true q306
         have p307 : 0 ≤ (x6_1 : Int) := of_decide_eq_true (by first | (with_reducible assumption) | assumption)
         have q307 : x6_1 < (l0.length : Int) := of_decide_eq_true (by first | (with_reducible assumption) | assumption)
         obtain ⟨ad307, e307, hx307_0⟩ := Kd.at_string HR0.out x6_1 p307 q307
         obtain rfl : ad306 = ad307 := (by injection e307)
         replace p307 := eq_true p307
         replace q307 := eq_true q307
         have p7 : 0 ≤ (0 : Int) := (by omega)
         have q7 : 0 < (rdOf ByteArray.empty l0 x6_1).size := (by have : (0 : Int) < ((rdOf ByteArray.empty l0 x6_1).size : Int) := of_decide_eq_true (by first | (with_reducible assumption) | assumption); omega)
         have hx7 : ∀ h : 0 < (rdOf ByteArray.empty l0 x6_1).size, (((rdOf ByteArray.empty l0 x6_1)[0]'h).toNat : Int) = bt (rdOf ByteArray.empty l0 x6_1) 0 := bt_at (rdOf ByteArray.empty l0 x6_1) 0
         clear p7
         have qi7 : (0 < ((rdOf ByteArray.empty l0 x6_1).size : Int)) = True := eq_true (of_decide_eq_true (by first | (with_reducible assumption) | assumption))
         replace q7 := eq_true q7
         have p308 : 0 ≤ (x6_1 : Int) := of_decide_eq_true (by first | (with_reducible assumption) | assumption)
         have q308 : x6_1 < (l0.length : Int) := of_decide_eq_true (by first | (with_reducible assumption) | assumption)
         obtain ⟨ad308, e308, hx308_0⟩ := Kd.at_string HR0.out x6_1 p308 q308
         obtain rfl : ad306 = ad308 := (by injection e308)
         replace p308 := eq_true p308
         replace q308 := eq_true q308
         have p9 : 0 ≤ (0 : Int) := (by omega)
         have q9 : 0 < (rdOf ByteArray.empty l0 x6_1).size := (by have : (0 : Int) < ((rdOf ByteArray.empty l0 x6_1).size : Int) := of_decide_eq_true (by first | (with_reducible assumption) | assumption); omega)
         have hx9 : ∀ h : 0 < (rdOf ByteArray.empty l0 x6_1).size, (((rdOf ByteArray.empty l0 x6_1)[0]'h).toNat : Int) = bt (rdOf ByteArray.empty l0 x6_1) 0 := bt_at (rdOf ByteArray.empty l0 x6_1) 0
         clear p9
         have qi9 : (0 < ((rdOf ByteArray.empty l0 x6_1).size : Int)) = True := eq_true (of_decide_eq_true (by first | (with_reducible assumption) | assumption))
         replace q9 := eq_true q9
         go_wp2
         go_roundg k1
         case measure => have := HK1.out; omega
         case rel => exact ⟨(wrap64 (x5_1 + 1)), (wrap64 (x6_1 + 1)), (by first | rfl | (simp; done) | (simp [*]; done)), (by first | rfl | (simp; done) | (simp [*]; done)), H', ⟨by have := HK1.out; omega⟩, by repeat (first | exact Drawn0.refl _ | apply Drawn0.step)⟩
        ·rw [if_neg c10] at H
         have c10b0 : ((bt (rdOf ByteArray.empty l0 x6_1) 0) == a1) = false := beq_eq_false_iff_ne.mpr c10
         have c10b1 : ((bt (rdOf ByteArray.empty l0 x6_1) 0) != a1) = true := bne_iff_ne.mpr c10
         have H' := Aside0.mk H
         clear H
         have p306 : 0 ≤ (x6_1 : Int) := of_decide_eq_true (by first | (with_reducible assumption) | assumption)
         have q306 : x6_1 < (l0.length : Int) := of_decide_eq_true (by first | (with_reducible assumption) | assumption)
         obtain ⟨ad306, e306, hx306_0⟩ := Kd.at_string HR0.out x6_1 p306 q306
         cases e306
         replace p306 := eq_true p306
         replace q306 := eq_true q306
         have p307 : 0 ≤ (x6_1 : Int) := of_decide_eq_true (by first | (with_reducible assumption) | assumption)
         have q307 : x6_1 < (l0.length : Int) := of_decide_eq_true (by first | (with_reducible assumption) | assumption)
         obtain ⟨ad307, e307, hx307_0⟩ := Kd.at_string HR0.out x6_1 p307 q307
         obtain rfl : ad306 = ad307 := (by injection e307)
         replace p307 := eq_true p307
         replace q307 := eq_true q307
         have p7 : 0 ≤ (0 : Int) := (by omega)
         have q7 : 0 < (rdOf ByteArray.empty l0 x6_1).size := (by have : (0 : Int) < ((rdOf ByteArray.empty l0 x6_1).size : Int) := of_decide_eq_true (by first | (with_reducible assumption) | assumption); omega)
         have hx7 : ∀ h : 0 < (rdOf ByteArray.empty l0 x6_1).size, (((rdOf ByteArray.empty l0 x6_1)[0]'h).toNat : Int) = bt (rdOf ByteArray.empty l0 x6_1) 0 := bt_at (rdOf ByteArray.empty l0 x6_1) 0
         clear p7
         have qi7 : (0 < ((rdOf ByteArray.empty l0 x6_1).size : Int)) = True := eq_true (of_decide_eq_true (by first | (with_reducible assumption) | assumption))
         replace q7 := eq_true q7
         have p308 : 0 ≤ (x6_1 : Int) := of_decide_eq_true (by first | (with_reducible assumption) | assumption)
         have q308 : x6_1 < (l0.length : Int) := of_decide_eq_true (by first | (with_reducible assumption) | assumption)
         obtain ⟨ad308, e308, hx308_0⟩ := Kd.at_string HR0.out x6_1 p308 q308
         obtain rfl : ad306 = ad308 := (by injection e308)
         replace p308 := eq_true p308
         replace q308 := eq_true q308
         have p9 : 0 ≤ (0 : Int) := (by omega)
         have q9 : 0 < (rdOf ByteArray.empty l0 x6_1).size := (by have : (0 : Int) < ((rdOf ByteArray.empty l0 x6_1).size : Int) := of_decide_eq_true (by first | (with_reducible assumption) | assumption); omega)
         have hx9 : ∀ h : 0 < (rdOf ByteArray.empty l0 x6_1).size, (((rdOf ByteArray.empty l0 x6_1)[0]'h).toNat : Int) = bt (rdOf ByteArray.empty l0 x6_1) 0 := bt_at (rdOf ByteArray.empty l0 x6_1) 0
         clear p9
         have qi9 : (0 < ((rdOf ByteArray.empty l0 x6_1).size : Int)) = True := eq_true (of_decide_eq_true (by first | (with_reducible assumption) | assumption))
         replace q9 := eq_true q9
         go_wp2
         go_roundg k1
         case measure => have := HK1.out; omega
         case rel => exact ⟨(x5_1), (wrap64 (x6_1 + 1)), (by first | rfl | (simp; done) | (simp [*]; done)), (by first | rfl | (simp; done) | (simp [*]; done)), H', ⟨by have := HK1.out; omega⟩, by repeat (first | exact Drawn0.refl _ | apply Drawn0.step)⟩
      ·rw [if_neg c6] at H
       exact absurd H (by simp)
     ·rw [if_neg c5] at H
      have c5b0 : decide (0 < ((rdOf ByteArray.empty l0 x6_1).size : Int)) = false := decide_eq_false c5
      have c5b1 : decide (0 < (rdOf ByteArray.empty l0 x6_1).size) = false := decide_eq_false (by omega)
      clear c5
      have H' := Aside0.mk H
      clear H
      have p306 : 0 ≤ (x6_1 : Int) := of_decide_eq_true (by first | (with_reducible assumption) | assumption)
      have q306 : x6_1 < (l0.length : Int) := of_decide_eq_true (by first | (with_reducible assumption) | assumption)
      obtain ⟨ad306, e306, hx306_0⟩ := Kd.at_string HR0.out x6_1 p306 q306
      cases e306
      replace p306 := eq_true p306
      replace q306 := eq_true q306
      go_wp2
      go_roundg k1
      case measure => have := HK1.out; omega
      case rel => exact ⟨(x5_1), (wrap64 (x6_1 + 1)), (by first | rfl | (simp; done) | (simp [*]; done)), (by first | rfl | (simp; done) | (simp [*]; done)), H', ⟨by have := HK1.out; omega⟩, by repeat (first | exact Drawn0.refl _ | apply Drawn0.step)⟩
    ·rw [if_neg c4] at H
     exact absurd H (by simp)
   ·rw [if_neg c3] at H
    have c3b0 : decide (x6_1 < (l0.length : Int)) = false := decide_eq_false c3
    clear c3
    obtain rfl := Option.some.inj H
    go_wp2
    go_ret
    exact ⟨by first | rfl | (simp; done) | (simp [*]; done), by repeat (first | exact Drawn0.refl _ | apply Drawn0.step)⟩

end Go.Proofs.Ytlabiajcohmjhaa.Pr
-- shrunk
