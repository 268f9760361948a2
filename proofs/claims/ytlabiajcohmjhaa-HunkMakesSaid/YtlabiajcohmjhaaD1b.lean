-- written by a program of this session's (a turned copy of the kit's printer); Lean checks it
import Derived.Test.YtlabiajcohmjhaaD0
namespace Go.Proofs.Ytlabiajcohmjhaa.Pr
open Go.RowKit Go.Proofs.YtlabiajcohmjhaaW.PrintWords Go.Proofs.YtlabiajcohmjhaaW.PrintLast Go.Proofs.YtlabiajcohmjhaaW.PrintMore
attribute [local go_sem] max2_int min2_int max_two min_two max_three min_three max_four min_four   -- for this text's walks alone
set_option linter.unusedVariables false
set_option linter.unusedSimpArgs false

mutual
def hunk_count.l0 : Nat → Int → Int → Bool → List ByteArray → Int → Int → Option (Int × Int × Bool)
 | 0, _, _, _, _, _, _ => none
 | k + 1, x2, x3, x5, x8, x9, x10 => if x10 < x9 then (if 0 ≤ x10 then (if x10 < (x8.length : Int) then (if (rdOf ByteArray.empty x8 x10).toList = ([] : List UInt8) then (hunk_count.j1 k x2 x3 (rdOf ByteArray.empty x8 x10) x8 x9 x10 true) else (if 0 < ((rdOf ByteArray.empty x8 x10).size : Int) then (if (bt (rdOf ByteArray.empty x8 x10) 0) = 45 then (hunk_count.j1 k x2 x3 (rdOf ByteArray.empty x8 x10) x8 x9 x10 x5) else (hunk_count.j1 k x2 x3 (rdOf ByteArray.empty x8 x10) x8 x9 x10 false)) else (none))) else (none)) else (none)) else (some (x2, x3, true))
def hunk_count.j1 : Nat → Int → Int → ByteArray → List ByteArray → Int → Int → Bool → Option (Int × Int × Bool)
 | 0, _, _, _, _, _, _, _ => none
 | k + 1, x2, x3, x7, x8, x9, x10, x23 => if x23 = true then (some (0, 0, false)) else (if 0 < (x7.size : Int) then (if (bt x7 0) = 32 then (hunk_count.l0 k (wrap64 (x2 + 1)) (wrap64 (x3 + 1)) ((bt x7 0) == 43) x8 x9 (wrap64 (x10 + 1))) else (if (bt x7 0) = 43 then (hunk_count.l0 k x2 (wrap64 (x3 + 1)) ((bt x7 0) == 43) x8 x9 (wrap64 (x10 + 1))) else (if (bt x7 0) = 45 then (hunk_count.l0 k (wrap64 (x2 + 1)) x3 ((bt x7 0) == 43) x8 x9 (wrap64 (x10 + 1))) else (some (0, 0, false))))) else (none))
end
def hunk_count.f (k : Nat) (l0 : List ByteArray) : Option (Int × Int × Bool) := hunk_count.l0 k 0 0 false l0 (l0.length : Int) 0
theorem hunk_count.mono_l : ∀ k, (∀ y0 y1 y2 y3 y4 y5, LeO (hunk_count.l0 k y0 y1 y2 y3 y4 y5) (hunk_count.l0 (k + 1) y0 y1 y2 y3 y4 y5)) ∧ (∀ y0 y1 y2 y3 y4 y5 y6, LeO (hunk_count.j1 k y0 y1 y2 y3 y4 y5 y6) (hunk_count.j1 (k + 1) y0 y1 y2 y3 y4 y5 y6))
 | 0 => ⟨fun _ _ _ _ _ _ r h => by simp [hunk_count.l0] at h, fun _ _ _ _ _ _ _ r h => by simp [hunk_count.j1] at h⟩
 | k + 1 => by
  obtain ⟨ih0, ih1⟩ := hunk_count.mono_l k
  refine ⟨?_, ?_⟩
  ·intro y0 y1 y2 y3 y4 y5
   unfold hunk_count.l0
   repeat' first
   | (with_reducible exact ih0 _ _ _ _ _ _)
   | (with_reducible exact ih1 _ _ _ _ _ _ _)
   | (with_reducible exact LeO.refl _)
   | (with_reducible exact LeO.none _)
   | (with_reducible refine LeO.ite ?_ ?_)
   | (with_reducible refine LeO.bind ?_ (fun _ => ?_))
   | exact ih0 _ _ _ _ _ _
   | exact ih1 _ _ _ _ _ _ _
   | exact LeO.none _
   | refine LeO.ite ?_ ?_
   | refine LeO.bind ?_ (fun _ => ?_)
  ·intro y0 y1 y2 y3 y4 y5 y6
   unfold hunk_count.j1
   repeat' first
   | (with_reducible exact ih0 _ _ _ _ _ _)
   | (with_reducible exact ih1 _ _ _ _ _ _ _)
   | (with_reducible exact LeO.refl _)
   | (with_reducible exact LeO.none _)
   | (with_reducible refine LeO.ite ?_ ?_)
   | (with_reducible refine LeO.bind ?_ (fun _ => ?_))
   | exact ih0 _ _ _ _ _ _
   | exact ih1 _ _ _ _ _ _ _
   | exact LeO.none _
   | refine LeO.ite ?_ ?_
   | refine LeO.bind ?_ (fun _ => ?_)
theorem hunk_count.mono : ∀ a0 k, LeO (hunk_count.f k a0) (hunk_count.f (k + 1) a0) := by
 intro a0 k
 obtain ⟨ih0, ih1⟩ := hunk_count.mono_l k
 unfold hunk_count.f
 repeat' first
   | (with_reducible exact ih0 _ _ _ _ _ _)
   | (with_reducible exact ih1 _ _ _ _ _ _ _)
   | (with_reducible exact LeO.refl _)
   | (with_reducible exact LeO.none _)
   | (with_reducible refine LeO.ite ?_ ?_)
   | (with_reducible refine LeO.bind ?_ (fun _ => ?_))
   | exact ih0 _ _ _ _ _ _
   | exact ih1 _ _ _ _ _ _ _
   | exact LeO.none _
   | refine LeO.ite ?_ ?_
   | refine LeO.bind ?_ (fun _ => ?_)
set_option maxHeartbeats 8000000 in
set_option maxRecDepth 100000 in
theorem hunk_count.calls (k : Nat) (A0 : Option Addr) (c0 : Nat) (l0 : List ByteArray) (r1 : Int) (r2 : Int) (r3 : Bool) (w : World) (hr0 : Kd.C Kd.string w A0 l0.length l0) (hc0 : l0.length ≤ c0) (h : hunk_count.f k l0 = some (r1, r2, r3)) :
  Calls Try.prog 32 #[.slice A0 l0.length c0] w fun e w' => e = .returned (.tuple #[.int .i64 r1, .int .i64 r2, .bool r3]) ∧ Drawn0 w w' := by
 have HR0 := Aside0.mk hr0
 have HC0 := Aside0.mk hc0
 clear hr0 hc0
 have H : (hunk_count.l0 k 0 0 false l0 (l0.length : Int) 0) = some (r1, r2, r3) := h
 clear h
 have H' := Aside0.mk H
 clear H
 go_enter Try.func32, Try.ntmps32
 go_wp2
 go_loopg [2, 3, 5, 10] k (fun kq v2 v3 v5 v10 w' => ∃ (x2_1 : Int) (x3_1 : Int) (x5_1 : Bool) (x10_1 : Int), v2 = .int .i64 x2_1 ∧ v3 = .int .i64 x3_1 ∧ v5 = .bool x5_1 ∧ v10 = .int .i64 x10_1 ∧ Aside0 (hunk_count.l0 kq x2_1 x3_1 x5_1 l0 (l0.length : Int) x10_1 = some (r1, r2, r3)) ∧ Aside0 (kq ≤ k) ∧ Drawn0 w w')
 case atStart => exact ⟨(0), (0), (false), (0), (by first | rfl | (simp; done) | (simp [*]; done)), (by first | rfl | (simp; done) | (simp [*]; done)), (by first | rfl | (simp; done) | (simp [*]; done)), (by first | rfl | (simp; done) | (simp [*]; done)), H', ⟨Nat.le_refl _⟩, by repeat (first | exact Drawn0.refl _ | apply Drawn0.step)⟩
 case round =>
  clear H'
  obtain ⟨x2_1, x3_1, x5_1, x10_1, rfl, rfl, rfl, rfl, HA, HK1, ⟨m1, rfl⟩⟩ := hrel
  cases gk with
  | zero => exact absurd HA.out (by simp [hunk_count.l0])
  | succ k1 =>
   have H := HA.out
   clear HA
   simp only [hunk_count.l0] at H
   by_cases c2 : x10_1 < (l0.length : Int)
   ·rw [if_pos c2] at H
    have c2b0 : decide (x10_1 < (l0.length : Int)) = true := decide_eq_true c2
    clear c2
    by_cases c3 : 0 ≤ x10_1
    ·rw [if_pos c3] at H
     have c3b0 : decide (0 ≤ x10_1) = true := decide_eq_true c3
     clear c3
     by_cases c4 : x10_1 < (l0.length : Int)
     ·rw [if_pos c4] at H
      have c4b0 : decide (x10_1 < (l0.length : Int)) = true := decide_eq_true c4
      clear c4
      have HC5 := Aside0.mk H
      clear H
      have p103 : 0 ≤ (x10_1 : Int) := of_decide_eq_true (by first | (with_reducible assumption) | assumption)
      have q103 : x10_1 < (l0.length : Int) := of_decide_eq_true (by first | (with_reducible assumption) | assumption)
      obtain ⟨ad103, e103, hx103_0⟩ := Kd.at_string HR0.out x10_1 p103 q103
      cases e103
      replace p103 := eq_true p103
      replace q103 := eq_true q103
      go_upto_region 5 with (fail)
      go_cut [23] (fun v23 wc => ∃ (kq : Nat) (x23_4 : Bool), v23 = .bool x23_4 ∧ Aside0 (hunk_count.j1 kq x2_1 x3_1 (rdOf ByteArray.empty l0 x10_1) l0 (l0.length : Int) x10_1 x23_4 = some (r1, r2, r3)) ∧ Aside0 (kq ≤ k1) ∧ Drawn0 w wc)
      case first =>
       have H := HC5.out
       clear HC5
       by_cases c6 : (rdOf ByteArray.empty l0 x10_1).toList = ([] : List UInt8)
       ·rw [if_pos c6] at H
        have c6b0 : ((rdOf ByteArray.empty l0 x10_1).toList == ([] : List UInt8)) = true := beq_iff_eq.mpr c6
        have c6b1 : ((rdOf ByteArray.empty l0 x10_1).toList != ([] : List UInt8)) = false := bne_eq_false_iff_eq.mpr c6
        clear c6
        (first | rw [c6b0] | (simp only [i64_w, i32_w]; rw [c6b0]) | skip)
        have H' := Aside0.mk H
        clear H
        go_wp2
        go_meet
        case rel => exact ⟨_, (true), (by first | rfl | (simp; done) | (simp [*]; done)), H', ⟨by have := HK1.out; first | omega | exact Nat.le_refl _⟩, by repeat (first | exact Drawn0.refl _ | apply Drawn0.step)⟩
       ·rw [if_neg c6] at H
        have c6b0 : ((rdOf ByteArray.empty l0 x10_1).toList == ([] : List UInt8)) = false := beq_eq_false_iff_ne.mpr c6
        have c6b1 : ((rdOf ByteArray.empty l0 x10_1).toList != ([] : List UInt8)) = true := bne_iff_ne.mpr c6
        (first | rw [c6b0] | (simp only [i64_w, i32_w]; rw [c6b0]) | skip)
        by_cases c7 : 0 < ((rdOf ByteArray.empty l0 x10_1).size : Int)
        ·rw [if_pos c7] at H
         have c7b0 : decide (0 < ((rdOf ByteArray.empty l0 x10_1).size : Int)) = true := decide_eq_true c7
         have c7b1 : decide (0 < (rdOf ByteArray.empty l0 x10_1).size) = true := decide_eq_true (by omega)
         clear c7
         by_cases c9 : (bt (rdOf ByteArray.empty l0 x10_1) 0) = 45
         ·rw [if_pos c9] at H
          have c9b0 : ((bt (rdOf ByteArray.empty l0 x10_1) 0) == 45) = true := beq_iff_eq.mpr c9
          have c9b1 : ((bt (rdOf ByteArray.empty l0 x10_1) 0) != 45) = false := bne_eq_false_iff_eq.mpr c9
          clear c9
          have H' := Aside0.mk H
          clear H
          have p8 : 0 ≤ (0 : Int) := (by omega)
          have q8 : 0 < (rdOf ByteArray.empty l0 x10_1).size := (by have : (0 : Int) < ((rdOf ByteArray.empty l0 x10_1).size : Int) := of_decide_eq_true (by first | (with_reducible assumption) | assumption); omega)
          have hx8 : ∀ h : 0 < (rdOf ByteArray.empty l0 x10_1).size, (((rdOf ByteArray.empty l0 x10_1)[0]'h).toNat : Int) = bt (rdOf ByteArray.empty l0 x10_1) 0 := bt_at (rdOf ByteArray.empty l0 x10_1) 0
          clear p8
          have qi8 : (0 < ((rdOf ByteArray.empty l0 x10_1).size : Int)) = True := eq_true (of_decide_eq_true (by first | (with_reducible assumption) | assumption))
          replace q8 := eq_true q8
          go_wp2
          go_meet
          case rel => exact ⟨_, (x5_1), (by first | rfl | (simp; done) | (simp [*]; done)), H', ⟨by have := HK1.out; first | omega | exact Nat.le_refl _⟩, by repeat (first | exact Drawn0.refl _ | apply Drawn0.step)⟩
         ·rw [if_neg c9] at H
          have c9b0 : ((bt (rdOf ByteArray.empty l0 x10_1) 0) == 45) = false := beq_eq_false_iff_ne.mpr c9
          have c9b1 : ((bt (rdOf ByteArray.empty l0 x10_1) 0) != 45) = true := bne_iff_ne.mpr c9
          have H' := Aside0.mk H
          clear H
          have p8 : 0 ≤ (0 : Int) := (by omega)
          have q8 : 0 < (rdOf ByteArray.empty l0 x10_1).size := (by have : (0 : Int) < ((rdOf ByteArray.empty l0 x10_1).size : Int) := of_decide_eq_true (by first | (with_reducible assumption) | assumption); omega)
          have hx8 : ∀ h : 0 < (rdOf ByteArray.empty l0 x10_1).size, (((rdOf ByteArray.empty l0 x10_1)[0]'h).toNat : Int) = bt (rdOf ByteArray.empty l0 x10_1) 0 := bt_at (rdOf ByteArray.empty l0 x10_1) 0
          clear p8
          have qi8 : (0 < ((rdOf ByteArray.empty l0 x10_1).size : Int)) = True := eq_true (of_decide_eq_true (by first | (with_reducible assumption) | assumption))
          replace q8 := eq_true q8
          go_wp2
          go_meet
          case rel => exact ⟨_, (false), (by first | rfl | (simp; done) | (simp [*]; done)), H', ⟨by have := HK1.out; first | omega | exact Nat.le_refl _⟩, by repeat (first | exact Drawn0.refl _ | apply Drawn0.step)⟩
        ·rw [if_neg c7] at H
         exact absurd H (by simp)
      case rest =>
       clear HC5
       try clear p1
       try clear q1
       try clear hx1
       try clear c2
       try clear c2b0
       try clear p2
       try clear c3
       try clear c3b0
       try clear c4
       try clear c4b0
       try clear c6
       try clear c6b0
       try clear c6b1
       try clear c7
       try clear c7b0
       try clear c7b1
       try clear p8
       try clear q8
       try clear hx8
       try clear qi8
       try clear c9
       try clear c9b0
       try clear c9b1
       try clear hx103_0
       try clear p103
       try clear p8
       try clear q103
       try clear q8
       obtain ⟨kq, x23_4, rfl, HA, HJ4, ⟨mc4, rfl⟩⟩ := hcut
       cases kq with
       | zero => exact absurd HA.out (by simp [hunk_count.j1])
       | succ kj4 =>
        have H := HA.out
        clear HA
        simp only [hunk_count.j1] at H
        by_cases c10 : x23_4 = true
        ·subst c10
         have H1 : (some (0, 0, false)) = some (r1, r2, r3) := by rw [if_pos rfl] at H; exact H
         clear H
         have H := H1
         clear H1
         simp only [Option.some.injEq, Prod.mk.injEq] at H
         obtain ⟨rfl, rfl, rfl⟩ := H
         go_wp2
         go_ret3
         exact ⟨by first | rfl | (simp; done) | (simp [*]; done), by repeat (first | exact Drawn0.refl _ | apply Drawn0.step)⟩
        ·replace c10 := Bool.eq_false_iff.mpr c10
         subst c10
         have H1 : (if 0 < ((rdOf ByteArray.empty l0 x10_1).size : Int) then (if (bt (rdOf ByteArray.empty l0 x10_1) 0) = 32 then (hunk_count.l0 kj4 (wrap64 (x2_1 + 1)) (wrap64 (x3_1 + 1)) ((bt (rdOf ByteArray.empty l0 x10_1) 0) == 43) l0 (l0.length : Int) (wrap64 (x10_1 + 1))) else (if (bt (rdOf ByteArray.empty l0 x10_1) 0) = 43 then (hunk_count.l0 kj4 x2_1 (wrap64 (x3_1 + 1)) ((bt (rdOf ByteArray.empty l0 x10_1) 0) == 43) l0 (l0.length : Int) (wrap64 (x10_1 + 1))) else (if (bt (rdOf ByteArray.empty l0 x10_1) 0) = 45 then (hunk_count.l0 kj4 (wrap64 (x2_1 + 1)) x3_1 ((bt (rdOf ByteArray.empty l0 x10_1) 0) == 43) l0 (l0.length : Int) (wrap64 (x10_1 + 1))) else (some (0, 0, false))))) else (none)) = some (r1, r2, r3) := by rw [if_neg (show ¬ (false = true) by decide)] at H; exact H
         clear H
         have H := H1
         clear H1
         by_cases c11 : 0 < ((rdOf ByteArray.empty l0 x10_1).size : Int)
         ·rw [if_pos c11] at H
          have c11b0 : decide (0 < ((rdOf ByteArray.empty l0 x10_1).size : Int)) = true := decide_eq_true c11
          have c11b1 : decide (0 < (rdOf ByteArray.empty l0 x10_1).size) = true := decide_eq_true (by omega)
          clear c11
          by_cases c13 : (bt (rdOf ByteArray.empty l0 x10_1) 0) = 32
          ·rw [if_pos c13] at H
           have c13b0 : ((bt (rdOf ByteArray.empty l0 x10_1) 0) == 32) = true := beq_iff_eq.mpr c13
           have c13b1 : ((bt (rdOf ByteArray.empty l0 x10_1) 0) != 32) = false := bne_eq_false_iff_eq.mpr c13
           clear c13
           have H' := Aside0.mk H
           clear H
           have p12 : 0 ≤ (0 : Int) := (by omega)
           have q12 : 0 < (rdOf ByteArray.empty l0 x10_1).size := (by have : (0 : Int) < ((rdOf ByteArray.empty l0 x10_1).size : Int) := of_decide_eq_true (by first | (with_reducible assumption) | assumption); omega)
           have hx12 : ∀ h : 0 < (rdOf ByteArray.empty l0 x10_1).size, (((rdOf ByteArray.empty l0 x10_1)[0]'h).toNat : Int) = bt (rdOf ByteArray.empty l0 x10_1) 0 := bt_at (rdOf ByteArray.empty l0 x10_1) 0
           clear p12
           have qi12 : (0 < ((rdOf ByteArray.empty l0 x10_1).size : Int)) = True := eq_true (of_decide_eq_true (by first | (with_reducible assumption) | assumption))
           replace q12 := eq_true q12
           have p14 : 0 ≤ (0 : Int) := (by omega)
           have q14 : 0 < (rdOf ByteArray.empty l0 x10_1).size := (by have : (0 : Int) < ((rdOf ByteArray.empty l0 x10_1).size : Int) := of_decide_eq_true (by first | (with_reducible assumption) | assumption); omega)
           have hx14 : ∀ h : 0 < (rdOf ByteArray.empty l0 x10_1).size, (((rdOf ByteArray.empty l0 x10_1)[0]'h).toNat : Int) = bt (rdOf ByteArray.empty l0 x10_1) 0 := bt_at (rdOf ByteArray.empty l0 x10_1) 0
           clear p14
           have qi14 : (0 < ((rdOf ByteArray.empty l0 x10_1).size : Int)) = True := eq_true (of_decide_eq_true (by first | (with_reducible assumption) | assumption))
           replace q14 := eq_true q14
           go_wp2
           go_roundg kj4
           case measure => have := HK1.out; have := HJ4.out; omega
           case rel => exact ⟨(wrap64 (x2_1 + 1)), (wrap64 (x3_1 + 1)), (((bt (rdOf ByteArray.empty l0 x10_1) 0) == 43)), (wrap64 (x10_1 + 1)), (by first | rfl | (simp; done) | (simp [*]; done)), (by first | rfl | (simp; done) | (simp [*]; done)), (by first | rfl | (simp; done) | (simp [*]; done)), (by first | rfl | (simp; done) | (simp [*]; done)), H', ⟨by have := HK1.out; have := HJ4.out; omega⟩, by repeat (first | exact Drawn0.refl _ | apply Drawn0.step)⟩
          ·rw [if_neg c13] at H
           have c13b0 : ((bt (rdOf ByteArray.empty l0 x10_1) 0) == 32) = false := beq_eq_false_iff_ne.mpr c13
           have c13b1 : ((bt (rdOf ByteArray.empty l0 x10_1) 0) != 32) = true := bne_iff_ne.mpr c13
           by_cases c15 : (bt (rdOf ByteArray.empty l0 x10_1) 0) = 43
           ·rw [if_pos c15] at H
            have c15b0 : ((bt (rdOf ByteArray.empty l0 x10_1) 0) == 43) = true := beq_iff_eq.mpr c15
            have c15b1 : ((bt (rdOf ByteArray.empty l0 x10_1) 0) != 43) = false := bne_eq_false_iff_eq.mpr c15
            clear c15
            have H' := Aside0.mk H
            clear H
            have p12 : 0 ≤ (0 : Int) := (by omega)
            have q12 : 0 < (rdOf ByteArray.empty l0 x10_1).size := (by have : (0 : Int) < ((rdOf ByteArray.empty l0 x10_1).size : Int) := of_decide_eq_true (by first | (with_reducible assumption) | assumption); omega)
            have hx12 : ∀ h : 0 < (rdOf ByteArray.empty l0 x10_1).size, (((rdOf ByteArray.empty l0 x10_1)[0]'h).toNat : Int) = bt (rdOf ByteArray.empty l0 x10_1) 0 := bt_at (rdOf ByteArray.empty l0 x10_1) 0
            clear p12
            have qi12 : (0 < ((rdOf ByteArray.empty l0 x10_1).size : Int)) = True := eq_true (of_decide_eq_true (by first | (with_reducible assumption) | assumption))
            replace q12 := eq_true q12
            have p16 : 0 ≤ (0 : Int) := (by omega)
            have q16 : 0 < (rdOf ByteArray.empty l0 x10_1).size := (by have : (0 : Int) < ((rdOf ByteArray.empty l0 x10_1).size : Int) := of_decide_eq_true (by first | (with_reducible assumption) | assumption); omega)
            have hx16 : ∀ h : 0 < (rdOf ByteArray.empty l0 x10_1).size, (((rdOf ByteArray.empty l0 x10_1)[0]'h).toNat : Int) = bt (rdOf ByteArray.empty l0 x10_1) 0 := bt_at (rdOf ByteArray.empty l0 x10_1) 0
            clear p16
            have qi16 : (0 < ((rdOf ByteArray.empty l0 x10_1).size : Int)) = True := eq_true (of_decide_eq_true (by first | (with_reducible assumption) | assumption))
            replace q16 := eq_true q16
            go_wp2
            go_roundg kj4
            case measure => have := HK1.out; have := HJ4.out; omega
            case rel => exact ⟨(x2_1), (wrap64 (x3_1 + 1)), (((bt (rdOf ByteArray.empty l0 x10_1) 0) == 43)), (wrap64 (x10_1 + 1)), (by first | rfl | (simp; done) | (simp [*]; done)), (by first | rfl | (simp; done) | (simp [*]; done)), (by first | rfl | (simp; done) | (simp [*]; done)), (by first | rfl | (simp; done) | (simp [*]; done)), H', ⟨by have := HK1.out; have := HJ4.out; omega⟩, by repeat (first | exact Drawn0.refl _ | apply Drawn0.step)⟩
           ·rw [if_neg c15] at H
            have c15b0 : ((bt (rdOf ByteArray.empty l0 x10_1) 0) == 43) = false := beq_eq_false_iff_ne.mpr c15
            have c15b1 : ((bt (rdOf ByteArray.empty l0 x10_1) 0) != 43) = true := bne_iff_ne.mpr c15
            by_cases c17 : (bt (rdOf ByteArray.empty l0 x10_1) 0) = 45
            ·rw [if_pos c17] at H
             have c17b0 : ((bt (rdOf ByteArray.empty l0 x10_1) 0) == 45) = true := beq_iff_eq.mpr c17
             have c17b1 : ((bt (rdOf ByteArray.empty l0 x10_1) 0) != 45) = false := bne_eq_false_iff_eq.mpr c17
             clear c17
             have H' := Aside0.mk H
             clear H
             have p12 : 0 ≤ (0 : Int) := (by omega)
             have q12 : 0 < (rdOf ByteArray.empty l0 x10_1).size := (by have : (0 : Int) < ((rdOf ByteArray.empty l0 x10_1).size : Int) := of_decide_eq_true (by first | (with_reducible assumption) | assumption); omega)
             have hx12 : ∀ h : 0 < (rdOf ByteArray.empty l0 x10_1).size, (((rdOf ByteArray.empty l0 x10_1)[0]'h).toNat : Int) = bt (rdOf ByteArray.empty l0 x10_1) 0 := bt_at (rdOf ByteArray.empty l0 x10_1) 0
             clear p12
             have qi12 : (0 < ((rdOf ByteArray.empty l0 x10_1).size : Int)) = True := eq_true (of_decide_eq_true (by first | (with_reducible assumption) | assumption))
             replace q12 := eq_true q12
             have p18 : 0 ≤ (0 : Int) := (by omega)
             have q18 : 0 < (rdOf ByteArray.empty l0 x10_1).size := (by have : (0 : Int) < ((rdOf ByteArray.empty l0 x10_1).size : Int) := of_decide_eq_true (by first | (with_reducible assumption) | assumption); omega)
             have hx18 : ∀ h : 0 < (rdOf ByteArray.empty l0 x10_1).size, (((rdOf ByteArray.empty l0 x10_1)[0]'h).toNat : Int) = bt (rdOf ByteArray.empty l0 x10_1) 0 := bt_at (rdOf ByteArray.empty l0 x10_1) 0
             clear p18
             have qi18 : (0 < ((rdOf ByteArray.empty l0 x10_1).size : Int)) = True := eq_true (of_decide_eq_true (by first | (with_reducible assumption) | assumption))
             replace q18 := eq_true q18
             go_wp2
             go_roundg kj4
             case measure => have := HK1.out; have := HJ4.out; omega
             case rel => exact ⟨(wrap64 (x2_1 + 1)), (x3_1), (((bt (rdOf ByteArray.empty l0 x10_1) 0) == 43)), (wrap64 (x10_1 + 1)), (by first | rfl | (simp; done) | (simp [*]; done)), (by first | rfl | (simp; done) | (simp [*]; done)), (by first | rfl | (simp; done) | (simp [*]; done)), (by first | rfl | (simp; done) | (simp [*]; done)), H', ⟨by have := HK1.out; have := HJ4.out; omega⟩, by repeat (first | exact Drawn0.refl _ | apply Drawn0.step)⟩
            ·rw [if_neg c17] at H
             have c17b0 : ((bt (rdOf ByteArray.empty l0 x10_1) 0) == 45) = false := beq_eq_false_iff_ne.mpr c17
             have c17b1 : ((bt (rdOf ByteArray.empty l0 x10_1) 0) != 45) = true := bne_iff_ne.mpr c17
             simp only [Option.some.injEq, Prod.mk.injEq] at H
             obtain ⟨rfl, rfl, rfl⟩ := H
             have p12 : 0 ≤ (0 : Int) := (by omega)
             have q12 : 0 < (rdOf ByteArray.empty l0 x10_1).size := (by have : (0 : Int) < ((rdOf ByteArray.empty l0 x10_1).size : Int) := of_decide_eq_true (by first | (with_reducible assumption) | assumption); omega)
             have hx12 : ∀ h : 0 < (rdOf ByteArray.empty l0 x10_1).size, (((rdOf ByteArray.empty l0 x10_1)[0]'h).toNat : Int) = bt (rdOf ByteArray.empty l0 x10_1) 0 := bt_at (rdOf ByteArray.empty l0 x10_1) 0
             clear p12
             have qi12 : (0 < ((rdOf ByteArray.empty l0 x10_1).size : Int)) = True := eq_true (of_decide_eq_true (by first | (with_reducible assumption) | assumption))
             replace q12 := eq_true q12
             go_wp2
             go_ret3
             exact ⟨by first | rfl | (simp; done) | (simp [*]; done), by repeat (first | exact Drawn0.refl _ | apply Drawn0.step)⟩
         ·rw [if_neg c11] at H
          exact absurd H (by simp)
     ·rw [if_neg c4] at H
      exact absurd H (by simp)
    ·rw [if_neg c3] at H
     exact absurd H (by simp)
   ·rw [if_neg c2] at H
    have c2b0 : decide (x10_1 < (l0.length : Int)) = false := decide_eq_false c2
    clear c2
    simp only [Option.some.injEq, Prod.mk.injEq] at H
    obtain ⟨rfl, rfl, rfl⟩ := H
    go_wp2
    go_ret3
    exact ⟨by first | rfl | (simp; done) | (simp [*]; done), by repeat (first | exact Drawn0.refl _ | apply Drawn0.step)⟩


end Go.Proofs.Ytlabiajcohmjhaa.Pr
-- shrunk
