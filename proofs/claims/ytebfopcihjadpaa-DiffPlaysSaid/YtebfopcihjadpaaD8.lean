-- written by a program of this session's (a turned copy of the kit's printer); Lean checks it
import Derived.Test.YtebfopcihjadpaaD0
import Derived.Test.YtebfopcihjadpaaD6b
namespace Go.Proofs.Ytebfopcihjadpaa.Pr
open Go.RowKit Go.Proofs.YtebfopcihjadpaaW.PrintWords Go.Proofs.YtebfopcihjadpaaW.PrintLast Go.Proofs.YtebfopcihjadpaaW.PrintMore
attribute [local go_sem] max2_int min2_int max_two min_two max_three min_three max_four min_four   -- for this text's walks alone
set_option linter.unusedVariables false
set_option linter.unusedSimpArgs false

/-! ### grapevineref04_Turn: function 25 -/
mutual
def grapevineref04_Turn.l0 : Nat → List ByteArray → List (S29) → Bool → List (S29) → Int → Option ((List (S29)))
  | 0, _, _, _, _, _ => none
  | k + 1, x0, x1, x5, x6, x7 => if x7 < (x1.length : Int) then (grapevineref04_Turn.j1 k x0 x1 x5 x6 x7 x5) else (grapevineref04_Turn.j1 k x0 x1 x5 x6 x7 false)
def grapevineref04_Turn.j1 : Nat → List ByteArray → List (S29) → Bool → List (S29) → Int → Bool → Option ((List (S29)))
  | 0, _, _, _, _, _, _ => none
  | k + 1, x0, x1, x5, x6, x7, x20 => if x20 = true then (if 0 ≤ x7 then (if x7 < (x1.length : Int) then ((some (([] : List ByteArray) : List ByteArray)).bind fun y234 => (if 0 ≤ ((rd_T29 x1 x7).f0) then (if ((rd_T29 x1 x7).f0) ≤ (wrap64 (((rd_T29 x1 x7).f0) + ((rd_T29 x1 x7).f1))) then (if (wrap64 (((rd_T29 x1 x7).f0) + ((rd_T29 x1 x7).f1))) ≤ (x0.length : Int) then (if y234.length + ((x0.take ((wrap64 (((rd_T29 x1 x7).f0) + ((rd_T29 x1 x7).f1))) : Int).toNat).drop (((rd_T29 x1 x7).f0) : Int).toNat).length < 8796093022208 then (grapevineref04_Turn.l1 k x0 x1 x5 x6 x7 0 ((rd_T29 x1 x7).f0) (((rd_T29 x1 x7).f2).length : Int) (y234 ++ ((x0.take ((wrap64 (((rd_T29 x1 x7).f0) + ((rd_T29 x1 x7).f1))) : Int).toNat).drop (((rd_T29 x1 x7).f0) : Int).toNat))) else (none)) else (none)) else (none)) else (none))) else (none)) else (none)) else (some x6)
def grapevineref04_Turn.l1 : Nat → List ByteArray → List (S29) → Bool → List (S29) → Int → Int → Int → Int → List ByteArray → Option ((List (S29)))
  | 0, _, _, _, _, _, _, _, _, _ => none
  | k + 1, x0, x1, x5, x6, x7, x9, x245000, x245001, x245002 => if x9 < x7 then (if 0 ≤ x9 then (if x9 < (x1.length : Int) then (grapevineref04_Turn.l1 k x0 x1 x5 x6 x7 (wrap64 (x9 + 1)) (wrap64 ((wrap64 (x245000 + (((rd_T29 x1 x9).f2).length : Int))) - ((rd_T29 x1 x9).f1))) x245001 x245002) else (none)) else (none)) else (if x6.length < 3518437208883 then (grapevineref04_Turn.l0 k x0 x1 x5 (x6 ++ [(⟨x245000, x245001, x245002⟩ : S29)]) (wrap64 (x7 + 1))) else (none))
end
def grapevineref04_Turn.f (k : Nat) (l0 : List ByteArray) (l1 : List (S29)) : Option ((List (S29))) := (grapevineref04_Right.f k (l0.length : Int) l1).bind fun t231 => (grapevineref04_Turn.l0 k l0 l1 t231 ([] : List (S29)) 0)
theorem grapevineref04_Turn.mono_l : ∀ k, (∀ y0 y1 y2 y3 y4, LeO (grapevineref04_Turn.l0 k y0 y1 y2 y3 y4) (grapevineref04_Turn.l0 (k + 1) y0 y1 y2 y3 y4)) ∧ (∀ y0 y1 y2 y3 y4 y5, LeO (grapevineref04_Turn.j1 k y0 y1 y2 y3 y4 y5) (grapevineref04_Turn.j1 (k + 1) y0 y1 y2 y3 y4 y5)) ∧ (∀ y0 y1 y2 y3 y4 y5 y6 y7 y8, LeO (grapevineref04_Turn.l1 k y0 y1 y2 y3 y4 y5 y6 y7 y8) (grapevineref04_Turn.l1 (k + 1) y0 y1 y2 y3 y4 y5 y6 y7 y8))
  | 0 => ⟨fun _ _ _ _ _ r h => by simp [grapevineref04_Turn.l0] at h, fun _ _ _ _ _ _ r h => by simp [grapevineref04_Turn.j1] at h, fun _ _ _ _ _ _ _ _ _ r h => by simp [grapevineref04_Turn.l1] at h⟩
  | k + 1 => by
    obtain ⟨ih0, ih1, ih2⟩ := grapevineref04_Turn.mono_l k
    refine ⟨?_, ?_, ?_⟩
    · intro y0 y1 y2 y3 y4
      unfold grapevineref04_Turn.l0
      repeat' first
      | (with_reducible exact ih0 _ _ _ _ _)
      | (with_reducible exact ih1 _ _ _ _ _ _)
      | (with_reducible exact ih2 _ _ _ _ _ _ _ _ _)
      | (with_reducible exact grapevineref04_Right.mono _ _ _)
      | (with_reducible exact LeO.refl _)
      | (with_reducible exact LeO.none _)
      | (with_reducible refine LeO.ite ?_ ?_)
      | (with_reducible refine LeO.bind ?_ (fun _ => ?_))
      | exact ih0 _ _ _ _ _
      | exact ih1 _ _ _ _ _ _
      | exact ih2 _ _ _ _ _ _ _ _ _
      | exact grapevineref04_Right.mono _ _ _
      | exact LeO.none _
      | refine LeO.ite ?_ ?_
      | refine LeO.bind ?_ (fun _ => ?_)
    · intro y0 y1 y2 y3 y4 y5
      unfold grapevineref04_Turn.j1
      repeat' first
      | (with_reducible exact ih0 _ _ _ _ _)
      | (with_reducible exact ih1 _ _ _ _ _ _)
      | (with_reducible exact ih2 _ _ _ _ _ _ _ _ _)
      | (with_reducible exact grapevineref04_Right.mono _ _ _)
      | (with_reducible exact LeO.refl _)
      | (with_reducible exact LeO.none _)
      | (with_reducible refine LeO.ite ?_ ?_)
      | (with_reducible refine LeO.bind ?_ (fun _ => ?_))
      | exact ih0 _ _ _ _ _
      | exact ih1 _ _ _ _ _ _
      | exact ih2 _ _ _ _ _ _ _ _ _
      | exact grapevineref04_Right.mono _ _ _
      | exact LeO.none _
      | refine LeO.ite ?_ ?_
      | refine LeO.bind ?_ (fun _ => ?_)
    · intro y0 y1 y2 y3 y4 y5 y6 y7 y8
      unfold grapevineref04_Turn.l1
      repeat' first
      | (with_reducible exact ih0 _ _ _ _ _)
      | (with_reducible exact ih1 _ _ _ _ _ _)
      | (with_reducible exact ih2 _ _ _ _ _ _ _ _ _)
      | (with_reducible exact grapevineref04_Right.mono _ _ _)
      | (with_reducible exact LeO.refl _)
      | (with_reducible exact LeO.none _)
      | (with_reducible refine LeO.ite ?_ ?_)
      | (with_reducible refine LeO.bind ?_ (fun _ => ?_))
      | exact ih0 _ _ _ _ _
      | exact ih1 _ _ _ _ _ _
      | exact ih2 _ _ _ _ _ _ _ _ _
      | exact grapevineref04_Right.mono _ _ _
      | exact LeO.none _
      | refine LeO.ite ?_ ?_
      | refine LeO.bind ?_ (fun _ => ?_)
theorem grapevineref04_Turn.mono : ∀ a0 a1 k, LeO (grapevineref04_Turn.f k a0 a1) (grapevineref04_Turn.f (k + 1) a0 a1) := by
  intro a0 a1 k
  obtain ⟨ih0, ih1, ih2⟩ := grapevineref04_Turn.mono_l k
  unfold grapevineref04_Turn.f
  repeat' first
      | (with_reducible exact ih0 _ _ _ _ _)
      | (with_reducible exact ih1 _ _ _ _ _ _)
      | (with_reducible exact ih2 _ _ _ _ _ _ _ _ _)
      | (with_reducible exact grapevineref04_Right.mono _ _ _)
      | (with_reducible exact LeO.refl _)
      | (with_reducible exact LeO.none _)
      | (with_reducible refine LeO.ite ?_ ?_)
      | (with_reducible refine LeO.bind ?_ (fun _ => ?_))
      | exact ih0 _ _ _ _ _
      | exact ih1 _ _ _ _ _ _
      | exact ih2 _ _ _ _ _ _ _ _ _
      | exact grapevineref04_Right.mono _ _ _
      | exact LeO.none _
      | refine LeO.ite ?_ ?_
      | refine LeO.bind ?_ (fun _ => ?_)
def grapevineref04_Turn.T6 : Bool × List (List Nat × List Nat) := (true, [([], []), ([], []), ([0, 1], [0, 1]), ([2], [2]), ([3], [3]), ([], []), ([], []), ([5, 6], [5, 6]), ([7], [7]), ([8], [8]), ([9], [9]), ([], []), ([], []), ([], []), ([], []), ([13, 14], [13, 14]), ([15], [15]), ([16], [16]), ([], []), ([], []), ([18, 19], [18, 19]), ([20], [20]), ([21], [21]), ([], []), ([], []), ([23, 24], [23, 24]), ([25], [25]), ([26], [26]), ([22, 27], [22, 27]), ([12, 17, 28], [12, 17, 28]), ([11, 29], [11, 29]), ([4, 10, 30], [4, 10, 30]), ([], []), ([32, 31, 30, 0, 1, 2, 3, 4, 5, 6, 7, 8, 9, 10, 11, 12, 13, 14, 15, 16, 17, 18, 19, 20, 21, 22, 23, 24, 25, 26, 27, 28, 29, 30, 31, 32], [31, 32])])
def grapevineref04_Turn.B6 : List Nat := [0, 0, 3, 7, 15, 0, 0, 96, 224, 480, 992, 0, 0, 0, 0, 24576, 57344, 122880, 0, 0, 786432, 1835008, 3932160, 0, 0, 25165824, 58720256, 125829120, 268173312, 536866816, 1073739776, 2147483647, 0, 8589934591]
theorem grapevineref04_Turn.tab6 : rtab .any (opsOf Try.f25 6) = grapevineref04_Turn.T6 := by kernel_rfl
theorem grapevineref04_Turn.bits6 : waitsOk grapevineref04_Turn.T6.2 grapevineref04_Turn.B6 = true := by kernel_rfl
def grapevineref04_Turn.T10 : Bool × List (List Nat × List Nat) := (true, [([], []), ([0], [0]), ([], []), ([], []), ([2, 3], [2, 3]), ([4], [4]), ([5], [5]), ([6], [6]), ([1, 7], [1, 7]), ([], []), ([], []), ([9, 10], [9, 10]), ([11], [11]), ([12], [12]), ([8, 13], [8, 13]), ([0, 1, 2, 3, 4, 5, 6, 7, 8, 9, 10, 11, 12, 13, 14], []), ([15, 14, 0, 1, 2, 3, 4, 5, 6, 7, 8, 9, 10, 11, 12, 13, 14], [14, 15])])
def grapevineref04_Turn.B10 : List Nat := [0, 1, 0, 0, 12, 28, 60, 124, 255, 0, 0, 1536, 3584, 7680, 16383, 32767, 65535]
theorem grapevineref04_Turn.tab10 : rtab .any (opsOf Try.f25 10) = grapevineref04_Turn.T10 := by kernel_rfl
theorem grapevineref04_Turn.bits10 : waitsOk grapevineref04_Turn.T10.2 grapevineref04_Turn.B10 = true := by kernel_rfl
set_option maxHeartbeats 8000000 in
set_option maxRecDepth 100000 in
theorem grapevineref04_Turn.calls (k : Nat) (A0 : Option Addr) (c0 : Nat) (l0 : List ByteArray) (A1 : Option Addr) (c1 : Nat) (l1 : List (S29)) (r : List (S29)) (w : World) (hr0 : Kd.C Kd.string w A0 l0.length l0) (hc0 : l0.length ≤ c0) (hr1 : Kd.C k29 w A1 l1.length l1) (hc1 : l1.length ≤ c1) (h : grapevineref04_Turn.f k l0 l1 = some r) :
    Calls Try.prog 25 #[.slice A0 l0.length c0, .slice A1 l1.length c1] w fun e w' => ∃ v0_ : Value, e = .returned (v0_) ∧ Kd.S k29 29 w' w.heap.size (fun _ => True) v0_ r ∧ Below w.heap.size w w' := by
  have hu29 := Try.underlying29
  have HR0 := Aside0.mk hr0
  have HC0 := Aside0.mk hc0
  clear hr0 hc0
  have HR1 := Aside0.mk hr1
  have HC1 := Aside0.mk hc1
  clear hr1 hc1
  have HB := Aside0.mk (Below.refl w.heap.size w)
  have H : ((grapevineref04_Right.f k (l0.length : Int) l1).bind fun t231 => (grapevineref04_Turn.l0 k l0 l1 t231 ([] : List (S29)) 0)) = some r := h
  clear h
  replace H := Option.bind_eq_some_iff.mp H
  obtain ⟨t231, A30, H⟩ := H
  replace H : (grapevineref04_Turn.l0 k l0 l1 t231 ([] : List (S29)) 0) = some r := H
  have A3 := Aside0.mk A30
  clear A30
  have H' := Aside0.mk H
  clear H
  go_enter Try.func25, Try.ntmps25
  go_wp2_with (first | ((with_reducible refine gate_callee (f := 20) rfl ?_); refine goesL_ (some 13) rfl rfl Try.func20 (by kernel_rfl) rfl #[.int .i64 (l0.length : Int), .slice A1 l1.length c1] rfl (by (try simp only [List.map_toArray, List.map_cons, List.map_nil]); first | done | rfl | (simp only [List.length_drop, List.length_take]; rfl)) ?_; (with_reducible refine (grapevineref04_Right.calls k (l0.length : Int) _ _ l1 t231 _ ?side1 ?side2 A3.out).mono ?_); (case side1 => repeat (first | exact HR1.out | (with_reducible refine Kd.C_alloc ?_ _) | (with_reducible refine Kd.C_drewN ?_ _) | (with_reducible refine Kd.C_drew ?_))); (case side2 => exact HC1.out); rintro e w' ⟨rfl, ⟨nd, rfl⟩⟩; refine ⟨_, rfl, ?_⟩))
  go_loopg [6, 7] k (fun kq v6 v7 w' => ∃ (x6_1 : List (S29)) (x7_1 : Int), v7 = .int .i64 x7_1 ∧ Aside0 (grapevineref04_Turn.l0 kq l0 l1 t231 x6_1 x7_1 = some r) ∧ Aside0 (kq ≤ k) ∧ Aside0 (Kd.S k29 29 w' w.heap.size (fun _ => True) v6 x6_1) ∧ Aside0 (Below w.heap.size w w'))
  case atStart => exact ⟨(([] : List (S29))), (0), (by first | rfl | (simp; done) | (simp [*]; done)), H', ⟨Nat.le_refl _⟩, ⟨by first | exact Kd.S_nil _ _ _ _ _ | exact Kd.N_nil _ _ _ _ _ | exact Kd.V_nil _ _ _ _ _ | exact Kd.Q_nil _ _ _ _ _ | exact Kd.R_nil _ _ _ _ _⟩, ⟨by repeat (first | (with_reducible first | exact HB.out | apply below_alloc | apply pw_below_drewN | apply below_drew1) | exact HB.out)⟩⟩
  case round =>
    clear H'
    try clear c1
    try clear c2
    try clear p2
    obtain ⟨x6_1, x7_1, rfl, HA, HK1, HO_6, HB⟩ := hrel
    cases gk with
    | zero => exact absurd HA.out (by simp [grapevineref04_Turn.l0])
    | succ k1 =>
      have H := HA.out
      clear HA
      simp only [grapevineref04_Turn.l0] at H
      have HC4 := Aside0.mk H
      clear H
      go_upto_region 4 with (fail)
      go_cut [20] (fun v20 wc => ∃ (kq : Nat) (x20_3 : Bool), v20 = .bool x20_3 ∧ Aside0 (grapevineref04_Turn.j1 kq l0 l1 t231 x6_1 x7_1 x20_3 = some r) ∧ Aside0 (kq ≤ k1) ∧ Aside0 (Kd.S k29 29 wc w.heap.size (fun _ => True) u6 x6_1) ∧ Aside0 (Below w.heap.size w wc))
      case first =>
        have H := HC4.out
        clear HC4
        by_cases c5 : x7_1 < (l1.length : Int)
        · rw [if_pos c5] at H
          have c5b0 : decide (x7_1 < (l1.length : Int)) = true := decide_eq_true c5
          clear c5
          (first | rw [c5b0] | (simp only [i64_w, i32_w]; rw [c5b0]) | skip)
          have H' := Aside0.mk H
          clear H
          go_wp2
          go_meet
          case rel => exact ⟨_, (t231), (by first | rfl | (simp; done) | (simp [*]; done)), H', ⟨by have := HK1.out; first | omega | exact Nat.le_refl _⟩, ⟨by (with_reducible repeat (first | apply Kd.S_alloc | apply Kd.S_drewN | apply Kd.S_drew)); exact HO_6.out⟩, ⟨by repeat (first | (with_reducible first | exact HB.out | apply below_alloc | apply pw_below_drewN | apply below_drew1) | exact HB.out)⟩⟩
        · rw [if_neg c5] at H
          have c5b0 : decide (x7_1 < (l1.length : Int)) = false := decide_eq_false c5
          clear c5
          (first | rw [c5b0] | (simp only [i64_w, i32_w]; rw [c5b0]) | skip)
          have H' := Aside0.mk H
          clear H
          go_wp2
          go_meet
          case rel => exact ⟨_, (false), (by first | rfl | (simp; done) | (simp [*]; done)), H', ⟨by have := HK1.out; first | omega | exact Nat.le_refl _⟩, ⟨by (with_reducible repeat (first | apply Kd.S_alloc | apply Kd.S_drewN | apply Kd.S_drew)); exact HO_6.out⟩, ⟨by repeat (first | (with_reducible first | exact HB.out | apply below_alloc | apply pw_below_drewN | apply below_drew1) | exact HB.out)⟩⟩
      case rest =>
        clear HC4
        try clear c1
        try clear c2
        try clear p2
        try clear c5
        try clear c5b0
        try clear p2
        obtain ⟨kq, x20_3, rfl, HA, HJ3, HO_6, HB⟩ := hcut
        cases kq with
        | zero => exact absurd HA.out (by simp [grapevineref04_Turn.j1])
        | succ kj3 =>
          have H := HA.out
          clear HA
          simp only [grapevineref04_Turn.j1] at H
          by_cases c6 : x20_3 = true
          · subst c6
            have H1 : (if 0 ≤ x7_1 then (if x7_1 < (l1.length : Int) then ((some (([] : List ByteArray) : List ByteArray)).bind fun y234 => (if 0 ≤ ((rd_T29 l1 x7_1).f0) then (if ((rd_T29 l1 x7_1).f0) ≤ (wrap64 (((rd_T29 l1 x7_1).f0) + ((rd_T29 l1 x7_1).f1))) then (if (wrap64 (((rd_T29 l1 x7_1).f0) + ((rd_T29 l1 x7_1).f1))) ≤ (l0.length : Int) then (if y234.length + ((l0.take ((wrap64 (((rd_T29 l1 x7_1).f0) + ((rd_T29 l1 x7_1).f1))) : Int).toNat).drop (((rd_T29 l1 x7_1).f0) : Int).toNat).length < 8796093022208 then (grapevineref04_Turn.l1 kj3 l0 l1 t231 x6_1 x7_1 0 ((rd_T29 l1 x7_1).f0) (((rd_T29 l1 x7_1).f2).length : Int) (y234 ++ ((l0.take ((wrap64 (((rd_T29 l1 x7_1).f0) + ((rd_T29 l1 x7_1).f1))) : Int).toNat).drop (((rd_T29 l1 x7_1).f0) : Int).toNat))) else (none)) else (none)) else (none)) else (none))) else (none)) else (none)) = some r := by rw [if_pos rfl] at H; exact H
            clear H
            have H := H1
            clear H1
            by_cases c7 : 0 ≤ x7_1
            · rw [if_pos c7] at H
              have c7b0 : decide (0 ≤ x7_1) = true := decide_eq_true c7
              clear c7
              by_cases c8 : x7_1 < (l1.length : Int)
              · rw [if_pos c8] at H
                have c8b0 : decide (x7_1 < (l1.length : Int)) = true := decide_eq_true c8
                clear c8
                obtain ⟨y234, hy234⟩ : ∃ y_ : List ByteArray, y_ = (([] : List ByteArray)) := ⟨_, rfl⟩
                replace H : (if 0 ≤ ((rd_T29 l1 x7_1).f0) then (if ((rd_T29 l1 x7_1).f0) ≤ (wrap64 (((rd_T29 l1 x7_1).f0) + ((rd_T29 l1 x7_1).f1))) then (if (wrap64 (((rd_T29 l1 x7_1).f0) + ((rd_T29 l1 x7_1).f1))) ≤ (l0.length : Int) then (if y234.length + ((l0.take ((wrap64 (((rd_T29 l1 x7_1).f0) + ((rd_T29 l1 x7_1).f1))) : Int).toNat).drop (((rd_T29 l1 x7_1).f0) : Int).toNat).length < 8796093022208 then (grapevineref04_Turn.l1 kj3 l0 l1 t231 x6_1 x7_1 0 ((rd_T29 l1 x7_1).f0) (((rd_T29 l1 x7_1).f2).length : Int) (y234 ++ ((l0.take ((wrap64 (((rd_T29 l1 x7_1).f0) + ((rd_T29 l1 x7_1).f1))) : Int).toNat).drop (((rd_T29 l1 x7_1).f0) : Int).toNat))) else (none)) else (none)) else (none)) else (none)) = some r := by first | (rw [hy234]; with_reducible exact H) | (have H2_ := (Option.bind_some _ _).symm.trans H; rw [hy234]; with_reducible exact H2_) | (have H2_ := (Option.bind_some _ _).symm.trans H; with_reducible exact H2_) | with_reducible exact H | (rw [hy234]; exact H) | exact H
                have Ny234 := Aside0.mk hy234
                clear hy234
                by_cases c9 : 0 ≤ ((rd_T29 l1 x7_1).f0)
                · rw [if_pos c9] at H
                  have c9b0 := eq_true c9
                  have c9b1 : decide (0 ≤ ((rd_T29 l1 x7_1).f0)) = true := decide_eq_true c9
                  clear c9
                  by_cases c10 : ((rd_T29 l1 x7_1).f0) ≤ (wrap64 (((rd_T29 l1 x7_1).f0) + ((rd_T29 l1 x7_1).f1)))
                  · rw [if_pos c10] at H
                    have c10b0 := eq_true c10
                    have c10b1 : decide (((rd_T29 l1 x7_1).f0) ≤ (wrap64 (((rd_T29 l1 x7_1).f0) + ((rd_T29 l1 x7_1).f1)))) = true := decide_eq_true c10
                    by_cases c11 : (wrap64 (((rd_T29 l1 x7_1).f0) + ((rd_T29 l1 x7_1).f1))) ≤ (l0.length : Int)
                    · rw [if_pos c11] at H
                      have c11b0 := eq_true c11
                      have c11b1 : decide ((wrap64 (((rd_T29 l1 x7_1).f0) + ((rd_T29 l1 x7_1).f1))) ≤ (l0.length : Int)) = true := decide_eq_true c11
                      by_cases c12 : y234.length + ((l0.take ((wrap64 (((rd_T29 l1 x7_1).f0) + ((rd_T29 l1 x7_1).f1))) : Int).toNat).drop (((rd_T29 l1 x7_1).f0) : Int).toNat).length < 8796093022208
                      · rw [if_pos c12] at H
                        have LMc12 := Aside0.mk c12
                        clear c12
                        obtain ⟨y241, hy241⟩ : ∃ y_ : List ByteArray, y_ = (y234 ++ ((l0.take ((wrap64 (((rd_T29 l1 x7_1).f0) + ((rd_T29 l1 x7_1).f1))) : Int).toNat).drop (((rd_T29 l1 x7_1).f0) : Int).toNat)) := ⟨_, rfl⟩
                        replace H : (grapevineref04_Turn.l1 kj3 l0 l1 t231 x6_1 x7_1 0 ((rd_T29 l1 x7_1).f0) (((rd_T29 l1 x7_1).f2).length : Int) y241) = some r := by first | (rw [hy241]; with_reducible exact H) | (have H2_ := (Option.bind_some _ _).symm.trans H; rw [hy241]; with_reducible exact H2_) | (have H2_ := (Option.bind_some _ _).symm.trans H; with_reducible exact H2_) | with_reducible exact H | (rw [hy241]; exact H) | exact H
                        have Ny241 := Aside0.mk hy241
                        clear hy241
                        have H' := Aside0.mk H
                        clear H
                        try go_wp2
                        have n0_ := Aside0.mk (Kd.S_drew HO_6.out)
                        have n1_ := Aside0.mk (below_drew1 HB.out)
                        clear HO_6
                        clear HB
                        have HO_6 := n0_
                        have HB := n1_
                        clear n0_ n1_
                        have p232 : 0 ≤ (x7_1 : Int) := of_decide_eq_true (by first | (with_reducible assumption) | assumption)
                        have q232 : x7_1 < (l1.length : Int) := of_decide_eq_true (by first | (with_reducible assumption) | assumption)
                        obtain ⟨ad232, A232_2, c232_2, e232, hx232_0, hx232_1, hx232_2, hl232_2, hi232_2⟩ := at_T29 HR1.out x7_1 p232 q232
                        have hw232_2 := hx232_2
                        have hw232_1 := hx232_1
                        have hw232_0 := hx232_0
                        cases e232
                        replace hx232_0 := (HB.out.cell (World.block_lt_of_cell? w _ hx232_0)).trans hx232_0
                        replace hx232_1 := (HB.out.cell (World.block_lt_of_cell? w _ hx232_1)).trans hx232_1
                        replace hx232_2 := (HB.out.cell (World.block_lt_of_cell? w _ hx232_2)).trans hx232_2
                        have HR232_2 := Aside0.mk hi232_2
                        have HC232_2 := Aside0.mk hl232_2
                        clear hi232_2 hl232_2
                        replace p232 := eq_true p232
                        replace q232 := eq_true q232
                        have p233 : 0 ≤ (x7_1 : Int) := of_decide_eq_true (by first | (with_reducible assumption) | assumption)
                        have q233 : x7_1 < (l1.length : Int) := of_decide_eq_true (by first | (with_reducible assumption) | assumption)
                        obtain ⟨ad233, A233_2, c233_2, e233, hx233_0, hx233_1, hx233_2, hl233_2, hi233_2⟩ := at_T29 HR1.out x7_1 p233 q233
                        have hw233_2 := hx233_2
                        have hw233_1 := hx233_1
                        have hw233_0 := hx233_0
                        obtain rfl : ad232 = ad233 := (by injection e233)
                        replace hx233_0 := (HB.out.cell (World.block_lt_of_cell? w _ hx233_0)).trans hx233_0
                        replace hx233_1 := (HB.out.cell (World.block_lt_of_cell? w _ hx233_1)).trans hx233_1
                        replace hx233_2 := (HB.out.cell (World.block_lt_of_cell? w _ hx233_2)).trans hx233_2
                        have HR233_2 := Aside0.mk hi233_2
                        have HC233_2 := Aside0.mk hl233_2
                        clear hi233_2 hl233_2
                        replace p233 := eq_true p233
                        replace q233 := eq_true q233
                        have ea_ := Option.some.inj (hx232_2.symm.trans hx233_2)
                        injection ea_ with ea_ en_ ec_
                        subst ea_
                        subst ec_
                        clear en_
                        have p237 : 0 ≤ (x7_1 : Int) := of_decide_eq_true (by first | (with_reducible assumption) | assumption)
                        have q237 : x7_1 < (l1.length : Int) := of_decide_eq_true (by first | (with_reducible assumption) | assumption)
                        obtain ⟨ad237, A237_2, c237_2, e237, hx237_0, hx237_1, hx237_2, hl237_2, hi237_2⟩ := at_T29 HR1.out x7_1 p237 q237
                        have hw237_2 := hx237_2
                        have hw237_1 := hx237_1
                        have hw237_0 := hx237_0
                        obtain rfl : ad232 = ad237 := (by injection e237)
                        replace hx237_0 := (HB.out.cell (World.block_lt_of_cell? w _ hx237_0)).trans hx237_0
                        replace hx237_1 := (HB.out.cell (World.block_lt_of_cell? w _ hx237_1)).trans hx237_1
                        replace hx237_2 := (HB.out.cell (World.block_lt_of_cell? w _ hx237_2)).trans hx237_2
                        have HR237_2 := Aside0.mk hi237_2
                        have HC237_2 := Aside0.mk hl237_2
                        clear hi237_2 hl237_2
                        replace p237 := eq_true p237
                        replace q237 := eq_true q237
                        have ea_ := Option.some.inj (hx232_2.symm.trans hx237_2)
                        injection ea_ with ea_ en_ ec_
                        subst ea_
                        subst ec_
                        clear en_
                        have p238 : 0 ≤ (x7_1 : Int) := of_decide_eq_true (by first | (with_reducible assumption) | assumption)
                        have q238 : x7_1 < (l1.length : Int) := of_decide_eq_true (by first | (with_reducible assumption) | assumption)
                        obtain ⟨ad238, A238_2, c238_2, e238, hx238_0, hx238_1, hx238_2, hl238_2, hi238_2⟩ := at_T29 HR1.out x7_1 p238 q238
                        have hw238_2 := hx238_2
                        have hw238_1 := hx238_1
                        have hw238_0 := hx238_0
                        obtain rfl : ad232 = ad238 := (by injection e238)
                        replace hx238_0 := (HB.out.cell (World.block_lt_of_cell? w _ hx238_0)).trans hx238_0
                        replace hx238_1 := (HB.out.cell (World.block_lt_of_cell? w _ hx238_1)).trans hx238_1
                        replace hx238_2 := (HB.out.cell (World.block_lt_of_cell? w _ hx238_2)).trans hx238_2
                        have HR238_2 := Aside0.mk hi238_2
                        have HC238_2 := Aside0.mk hl238_2
                        clear hi238_2 hl238_2
                        replace p238 := eq_true p238
                        replace q238 := eq_true q238
                        have ea_ := Option.some.inj (hx232_2.symm.trans hx238_2)
                        injection ea_ with ea_ en_ ec_
                        subst ea_
                        subst ec_
                        clear en_
                        have p239 : 0 ≤ (x7_1 : Int) := of_decide_eq_true (by first | (with_reducible assumption) | assumption)
                        have q239 : x7_1 < (l1.length : Int) := of_decide_eq_true (by first | (with_reducible assumption) | assumption)
                        obtain ⟨ad239, A239_2, c239_2, e239, hx239_0, hx239_1, hx239_2, hl239_2, hi239_2⟩ := at_T29 HR1.out x7_1 p239 q239
                        have hw239_2 := hx239_2
                        have hw239_1 := hx239_1
                        have hw239_0 := hx239_0
                        obtain rfl : ad232 = ad239 := (by injection e239)
                        replace hx239_0 := (HB.out.cell (World.block_lt_of_cell? w _ hx239_0)).trans hx239_0
                        replace hx239_1 := (HB.out.cell (World.block_lt_of_cell? w _ hx239_1)).trans hx239_1
                        replace hx239_2 := (HB.out.cell (World.block_lt_of_cell? w _ hx239_2)).trans hx239_2
                        have HR239_2 := Aside0.mk hi239_2
                        have HC239_2 := Aside0.mk hl239_2
                        clear hi239_2 hl239_2
                        replace p239 := eq_true p239
                        replace q239 := eq_true q239
                        have ea_ := Option.some.inj (hx232_2.symm.trans hx239_2)
                        injection ea_ with ea_ en_ ec_
                        subst ea_
                        subst ec_
                        clear en_
                        obtain ⟨i014, hi014, _, hsz14, _⟩ := info_parts info9
                        obtain ⟨A14, hcut14, hA14, hC14⟩ := print_mid_of (P := Try.prog) Value.string (⟨#[]⟩ : ByteArray) 22 9 .i64 .i64 Try.underlying22 hi014 hsz14 A0 c0 l0 ((rd_T29 l1 x7_1).f0) (wrap64 (((rd_T29 l1 x7_1).f0) + ((rd_T29 l1 x7_1).f1))) (of_decide_eq_true (by first | (with_reducible assumption) | assumption)) (by first | omega | exact of_decide_eq_true (by first | (with_reducible assumption) | assumption)) (of_decide_eq_true (by first | (with_reducible assumption) | assumption)) HC0.out
                        have HR240 := Aside0.mk (Kd.C_of_reads (h1 := fun _ => rfl) (hA14 _ (Kd.reads_of_C HR0.out)))
                        have HC240 := Aside0.mk hC14
                        clear hA14 hC14 hi014 hsz14
                        refine start_ (n := 34) (S := fun w' => w'.cell? (ad232.add ((x7_1).toNat * 3)) = some (.int .i64 ((rd_T29 l1 x7_1).f0)) ∧ w'.cell? ⟨(ad232.add ((x7_1).toNat * 3)).block, (ad232.add ((x7_1).toNat * 3)).off + 1, none⟩ = some (.int .i64 ((rd_T29 l1 x7_1).f1)) ∧ w'.cell? ⟨(ad232.add ((x7_1).toNat * 3)).block, (ad232.add ((x7_1).toNat * 3)).off + 2, none⟩ = some (.slice A232_2 ((rd_T29 l1 x7_1).f2).length c232_2) ∧ w'.cell? (ad232.add ((x7_1).toNat * 3)) = some (.int .i64 ((rd_T29 l1 x7_1).f0)) ∧ w'.cell? ⟨(ad232.add ((x7_1).toNat * 3)).block, (ad232.add ((x7_1).toNat * 3)).off + 1, none⟩ = some (.int .i64 ((rd_T29 l1 x7_1).f1)) ∧ w'.cell? ⟨(ad232.add ((x7_1).toNat * 3)).block, (ad232.add ((x7_1).toNat * 3)).off + 2, none⟩ = some (.slice A232_2 ((rd_T29 l1 x7_1).f2).length c232_2) ∧ w'.cell? (ad232.add ((x7_1).toNat * 3)) = some (.int .i64 ((rd_T29 l1 x7_1).f0)) ∧ w'.cell? ⟨(ad232.add ((x7_1).toNat * 3)).block, (ad232.add ((x7_1).toNat * 3)).off + 1, none⟩ = some (.int .i64 ((rd_T29 l1 x7_1).f1)) ∧ w'.cell? ⟨(ad232.add ((x7_1).toNat * 3)).block, (ad232.add ((x7_1).toNat * 3)).off + 2, none⟩ = some (.slice A232_2 ((rd_T29 l1 x7_1).f2).length c232_2) ∧ w'.cell? (ad232.add ((x7_1).toNat * 3)) = some (.int .i64 ((rd_T29 l1 x7_1).f0)) ∧ w'.cell? ⟨(ad232.add ((x7_1).toNat * 3)).block, (ad232.add ((x7_1).toNat * 3)).off + 1, none⟩ = some (.int .i64 ((rd_T29 l1 x7_1).f1)) ∧ w'.cell? ⟨(ad232.add ((x7_1).toNat * 3)).block, (ad232.add ((x7_1).toNat * 3)).off + 2, none⟩ = some (.slice A232_2 ((rd_T29 l1 x7_1).f2).length c232_2) ∧ w'.cell? (ad232.add ((x7_1).toNat * 3)) = some (.int .i64 ((rd_T29 l1 x7_1).f0)) ∧ w'.cell? ⟨(ad232.add ((x7_1).toNat * 3)).block, (ad232.add ((x7_1).toNat * 3)).off + 1, none⟩ = some (.int .i64 ((rd_T29 l1 x7_1).f1)) ∧ w'.cell? ⟨(ad232.add ((x7_1).toNat * 3)).block, (ad232.add ((x7_1).toNat * 3)).off + 2, none⟩ = some (.slice A232_2 ((rd_T29 l1 x7_1).f2).length c232_2)) (ds := []) #[false, false, false, false, false, false, false, false, false, false, false, false, false, false, false, false, false, false, false, false, false, false, false, false, false, false, false, false, false, false, false, false, false, false] (by kernel_rfl) rfl rfl ⟨((HB.out.cell (World.block_lt_of_cell? w _ hw232_0)).trans hw232_0), ((HB.out.cell (World.block_lt_of_cell? w _ hw232_1)).trans hw232_1), ((HB.out.cell (World.block_lt_of_cell? w _ hw232_2)).trans hw232_2), ((HB.out.cell (World.block_lt_of_cell? w _ hw233_0)).trans hw233_0), ((HB.out.cell (World.block_lt_of_cell? w _ hw233_1)).trans hw233_1), ((HB.out.cell (World.block_lt_of_cell? w _ hw233_2)).trans hw233_2), ((HB.out.cell (World.block_lt_of_cell? w _ hw237_0)).trans hw237_0), ((HB.out.cell (World.block_lt_of_cell? w _ hw237_1)).trans hw237_1), ((HB.out.cell (World.block_lt_of_cell? w _ hw237_2)).trans hw237_2), ((HB.out.cell (World.block_lt_of_cell? w _ hw238_0)).trans hw238_0), ((HB.out.cell (World.block_lt_of_cell? w _ hw238_1)).trans hw238_1), ((HB.out.cell (World.block_lt_of_cell? w _ hw238_2)).trans hw238_2), ((HB.out.cell (World.block_lt_of_cell? w _ hw239_0)).trans hw239_0), ((HB.out.cell (World.block_lt_of_cell? w _ hw239_1)).trans hw239_1), ((HB.out.cell (World.block_lt_of_cell? w _ hw239_2)).trans hw239_2)⟩ (fun hHeld => ?_); refine with_tabW grapevineref04_Turn.tab6 grapevineref04_Turn.bits6 (fun HT_ HW_ => ?_)
                        generalize wc.drew = w13 at HO_6 HB HR232_2 HR233_2 HR237_2 HR238_2 HR239_2 HR240 hx232_0 hx232_1 hx232_2 hx233_0 hx233_1 hx233_2 hx237_0 hx237_1 hx237_2 hx238_0 hx238_1 hx238_2 hx239_0 hx239_1 hx239_2 hHeld ⊢
                        refine pure_ (i := 0) (N := some 23) (v := ?_) (a' := ?_) #[true, false, false, false, false, false, false, false, false, false, false, false, false, false, false, false, false, false, false, false, false, false, false, false, false, false, false, false, false, false, false, false, false, false] rfl rfl (any_of HT_.out (by kernel_rfl)) (fun _ _ _ h => h) (Or.inl ⟨by rfl, ?_⟩) ?_ ?_
                        rotate_left
                        · intro w'
                          go_simp
                          with_reducible rfl
                        rotate_left
                        · simp only [Act.put, List.setIfInBounds_toArray, List.set_cons_zero, List.set_cons_succ, i64_w, i32_w]
                          rfl
                        refine pure_ (i := 1) (N := some 24) (v := ?_) (a' := ?_) #[true, true, false, false, false, false, false, false, false, false, false, false, false, false, false, false, false, false, false, false, false, false, false, false, false, false, false, false, false, false, false, false, false, false] rfl rfl (any_of HT_.out (by kernel_rfl)) (fun _ _ _ h => h) (Or.inl ⟨by rfl, ?_⟩) ?_ ?_
                        rotate_left
                        · intro w'
                          go_simp
                          with_reducible rfl
                        rotate_left
                        · simp only [Act.put, List.setIfInBounds_toArray, List.set_cons_zero, List.set_cons_succ, i64_w, i32_w]
                          rfl
                        refine pure_ (i := 2) (N := some 25) (v := ?_) (a' := ?_) #[true, true, true, false, false, false, false, false, false, false, false, false, false, false, false, false, false, false, false, false, false, false, false, false, false, false, false, false, false, false, false, false, false, false] rfl rfl (any_of HT_.out (by kernel_rfl)) (fun _ _ _ h => h) (Or.inl ⟨by rfl, ?_⟩) ?_ ?_
                        rotate_left
                        · intro w'
                          go_simp
                          with_reducible rfl
                        rotate_left
                        · simp only [Act.put, List.setIfInBounds_toArray, List.set_cons_zero, List.set_cons_succ, i64_w, i32_w]
                          rfl
                        refine pure_ (i := 3) (N := some 26) (v := ?_) (a' := ?_) #[true, true, true, true, false, false, false, false, false, false, false, false, false, false, false, false, false, false, false, false, false, false, false, false, false, false, false, false, false, false, false, false, false, false] rfl rfl (any_of HT_.out (by kernel_rfl)) (fun _ _ _ h => h) (Or.inl ⟨by rfl, ?_⟩) ?_ ?_
                        rotate_left
                        · intro w'
                          go_simp
                          with_reducible rfl
                        rotate_left
                        · simp only [Act.put, List.setIfInBounds_toArray, List.set_cons_zero, List.set_cons_succ, i64_w, i32_w]
                          rfl
                        refine pure_ (i := 5) (N := some 28) (v := ?_) (a' := ?_) #[true, true, true, true, false, true, false, false, false, false, false, false, false, false, false, false, false, false, false, false, false, false, false, false, false, false, false, false, false, false, false, false, false, false] rfl rfl (any_of HT_.out (by kernel_rfl)) (fun _ _ _ h => h) (Or.inl ⟨by rfl, ?_⟩) ?_ ?_
                        rotate_left
                        · intro w'
                          go_simp
                          with_reducible rfl
                        rotate_left
                        · simp only [Act.put, List.setIfInBounds_toArray, List.set_cons_zero, List.set_cons_succ, i64_w, i32_w]
                          rfl
                        refine pure_ (i := 6) (N := some 29) (v := ?_) (a' := ?_) #[true, true, true, true, false, true, true, false, false, false, false, false, false, false, false, false, false, false, false, false, false, false, false, false, false, false, false, false, false, false, false, false, false, false] rfl rfl (any_of HT_.out (by kernel_rfl)) (fun _ _ _ h => h) (Or.inl ⟨by rfl, ?_⟩) ?_ ?_
                        rotate_left
                        · intro w'
                          go_simp
                          with_reducible rfl
                        rotate_left
                        · simp only [Act.put, List.setIfInBounds_toArray, List.set_cons_zero, List.set_cons_succ, i64_w, i32_w]
                          rfl
                        refine pure_ (i := 7) (N := some 30) (v := ?_) (a' := ?_) #[true, true, true, true, false, true, true, true, false, false, false, false, false, false, false, false, false, false, false, false, false, false, false, false, false, false, false, false, false, false, false, false, false, false] rfl rfl (any_of HT_.out (by kernel_rfl)) (fun _ _ _ h => h) (Or.inl ⟨by rfl, ?_⟩) ?_ ?_
                        rotate_left
                        · intro w'
                          go_simp
                          with_reducible rfl
                        rotate_left
                        · simp only [Act.put, List.setIfInBounds_toArray, List.set_cons_zero, List.set_cons_succ, i64_w, i32_w]
                          rfl
                        refine pure_ (i := 8) (N := some 31) (v := ?_) (a' := ?_) #[true, true, true, true, false, true, true, true, true, false, false, false, false, false, false, false, false, false, false, false, false, false, false, false, false, false, false, false, false, false, false, false, false, false] rfl rfl (any_of HT_.out (by kernel_rfl)) (fun _ _ _ h => h) (Or.inl ⟨by rfl, ?_⟩) ?_ ?_
                        rotate_left
                        · intro w'
                          go_simp
                          with_reducible rfl
                        rotate_left
                        · simp only [Act.put, List.setIfInBounds_toArray, List.set_cons_zero, List.set_cons_succ, i64_w, i32_w]
                          rfl
                        refine pure_ (i := 12) (N := some 35) (v := ?_) (a' := ?_) #[true, true, true, true, false, true, true, true, true, false, false, false, true, false, false, false, false, false, false, false, false, false, false, false, false, false, false, false, false, false, false, false, false, false] rfl rfl (any_of HT_.out (by kernel_rfl)) (fun _ _ _ h => h) (Or.inl ⟨by rfl, ?_⟩) ?_ ?_
                        rotate_left
                        · intro w'
                          go_simp
                          with_reducible rfl
                        rotate_left
                        · simp only [Act.put, List.setIfInBounds_toArray, List.set_cons_zero, List.set_cons_succ, i64_w, i32_w]
                          rfl
                        refine pure_ (i := 13) (N := some 36) (v := ?_) (a' := ?_) #[true, true, true, true, false, true, true, true, true, false, false, false, true, true, false, false, false, false, false, false, false, false, false, false, false, false, false, false, false, false, false, false, false, false] rfl rfl (any_of HT_.out (by kernel_rfl)) (fun _ _ _ h => h) (Or.inl ⟨by rfl, ?_⟩) ?_ ?_
                        rotate_left
                        · intro w'
                          go_simp
                          with_reducible rfl
                        rotate_left
                        · simp only [Act.put, List.setIfInBounds_toArray, List.set_cons_zero, List.set_cons_succ, i64_w, i32_w]
                          rfl
                        refine pure_ (i := 14) (N := some 37) (v := ?_) (a' := ?_) #[true, true, true, true, false, true, true, true, true, false, false, false, true, true, true, false, false, false, false, false, false, false, false, false, false, false, false, false, false, false, false, false, false, false] rfl rfl (any_of HT_.out (by kernel_rfl)) (fun _ _ _ h => h) (Or.inl ⟨by rfl, ?_⟩) ?_ ?_
                        rotate_left
                        · intro w'
                          go_simp
                          with_reducible rfl
                        rotate_left
                        · simp only [Act.put, List.setIfInBounds_toArray, List.set_cons_zero, List.set_cons_succ, i64_w, i32_w]
                          rfl
                        refine pure_ (i := 15) (N := some 38) (v := ?_) (a' := ?_) #[true, true, true, true, false, true, true, true, true, false, false, false, true, true, true, true, false, false, false, false, false, false, false, false, false, false, false, false, false, false, false, false, false, false] rfl rfl (any_of HT_.out (by kernel_rfl)) (fun _ _ _ h => h) (Or.inl ⟨by rfl, ?_⟩) ?_ ?_
                        rotate_left
                        · intro w'
                          go_simp
                          with_reducible rfl
                        rotate_left
                        · simp only [Act.put, List.setIfInBounds_toArray, List.set_cons_zero, List.set_cons_succ, i64_w, i32_w]
                          rfl
                        refine pure_ (i := 16) (N := some 39) (v := ?_) (a' := ?_) #[true, true, true, true, false, true, true, true, true, false, false, false, true, true, true, true, true, false, false, false, false, false, false, false, false, false, false, false, false, false, false, false, false, false] rfl rfl (any_of HT_.out (by kernel_rfl)) (fun _ _ _ h => h) (Or.inl ⟨by rfl, ?_⟩) ?_ ?_
                        rotate_left
                        · intro w'
                          go_simp
                          with_reducible rfl
                        rotate_left
                        · simp only [Act.put, List.setIfInBounds_toArray, List.set_cons_zero, List.set_cons_succ, i64_w, i32_w]
                          rfl
                        refine pure_ (i := 18) (N := some 41) (v := ?_) (a' := ?_) #[true, true, true, true, false, true, true, true, true, false, false, false, true, true, true, true, true, false, true, false, false, false, false, false, false, false, false, false, false, false, false, false, false, false] rfl rfl (any_of HT_.out (by kernel_rfl)) (fun _ _ _ h => h) (Or.inl ⟨by rfl, ?_⟩) ?_ ?_
                        rotate_left
                        · intro w'
                          go_simp
                          with_reducible rfl
                        rotate_left
                        · simp only [Act.put, List.setIfInBounds_toArray, List.set_cons_zero, List.set_cons_succ, i64_w, i32_w]
                          rfl
                        refine pure_ (i := 19) (N := some 42) (v := ?_) (a' := ?_) #[true, true, true, true, false, true, true, true, true, false, false, false, true, true, true, true, true, false, true, true, false, false, false, false, false, false, false, false, false, false, false, false, false, false] rfl rfl (any_of HT_.out (by kernel_rfl)) (fun _ _ _ h => h) (Or.inl ⟨by rfl, ?_⟩) ?_ ?_
                        rotate_left
                        · intro w'
                          go_simp
                          with_reducible rfl
                        rotate_left
                        · simp only [Act.put, List.setIfInBounds_toArray, List.set_cons_zero, List.set_cons_succ, i64_w, i32_w]
                          rfl
                        refine pure_ (i := 20) (N := some 43) (v := ?_) (a' := ?_) #[true, true, true, true, false, true, true, true, true, false, false, false, true, true, true, true, true, false, true, true, true, false, false, false, false, false, false, false, false, false, false, false, false, false] rfl rfl (any_of HT_.out (by kernel_rfl)) (fun _ _ _ h => h) (Or.inl ⟨by rfl, ?_⟩) ?_ ?_
                        rotate_left
                        · intro w'
                          go_simp
                          with_reducible rfl
                        rotate_left
                        · simp only [Act.put, List.setIfInBounds_toArray, List.set_cons_zero, List.set_cons_succ, i64_w, i32_w]
                          rfl
                        refine pure_ (i := 21) (N := some 44) (v := ?_) (a' := ?_) #[true, true, true, true, false, true, true, true, true, false, false, false, true, true, true, true, true, false, true, true, true, true, false, false, false, false, false, false, false, false, false, false, false, false] rfl rfl (any_of HT_.out (by kernel_rfl)) (fun _ _ _ h => h) (Or.inl ⟨by rfl, ?_⟩) ?_ ?_
                        rotate_left
                        · intro w'
                          go_simp
                          with_reducible rfl
                        rotate_left
                        · simp only [Act.put, List.setIfInBounds_toArray, List.set_cons_zero, List.set_cons_succ, i64_w, i32_w]
                          rfl
                        refine pure_ (i := 23) (N := some 46) (v := ?_) (a' := ?_) #[true, true, true, true, false, true, true, true, true, false, false, false, true, true, true, true, true, false, true, true, true, true, false, true, false, false, false, false, false, false, false, false, false, false] rfl rfl (any_of HT_.out (by kernel_rfl)) (fun _ _ _ h => h) (Or.inl ⟨by rfl, ?_⟩) ?_ ?_
                        rotate_left
                        · intro w'
                          go_simp
                          with_reducible rfl
                        rotate_left
                        · simp only [Act.put, List.setIfInBounds_toArray, List.set_cons_zero, List.set_cons_succ, i64_w, i32_w]
                          rfl
                        refine pure_ (i := 24) (N := some 47) (v := ?_) (a' := ?_) #[true, true, true, true, false, true, true, true, true, false, false, false, true, true, true, true, true, false, true, true, true, true, false, true, true, false, false, false, false, false, false, false, false, false] rfl rfl (any_of HT_.out (by kernel_rfl)) (fun _ _ _ h => h) (Or.inl ⟨by rfl, ?_⟩) ?_ ?_
                        rotate_left
                        · intro w'
                          go_simp
                          with_reducible rfl
                        rotate_left
                        · simp only [Act.put, List.setIfInBounds_toArray, List.set_cons_zero, List.set_cons_succ, i64_w, i32_w]
                          rfl
                        refine pure_ (i := 25) (N := some 48) (v := ?_) (a' := ?_) #[true, true, true, true, false, true, true, true, true, false, false, false, true, true, true, true, true, false, true, true, true, true, false, true, true, true, false, false, false, false, false, false, false, false] rfl rfl (any_of HT_.out (by kernel_rfl)) (fun _ _ _ h => h) (Or.inl ⟨by rfl, ?_⟩) ?_ ?_
                        rotate_left
                        · intro w'
                          go_simp
                          with_reducible rfl
                        rotate_left
                        · simp only [Act.put, List.setIfInBounds_toArray, List.set_cons_zero, List.set_cons_succ, i64_w, i32_w]
                          rfl
                        refine pure_ (i := 26) (N := some 49) (v := ?_) (a' := ?_) #[true, true, true, true, false, true, true, true, true, false, false, false, true, true, true, true, true, false, true, true, true, true, false, true, true, true, true, false, false, false, false, false, false, false] rfl rfl (any_of HT_.out (by kernel_rfl)) (fun _ _ _ h => h) (Or.inl ⟨by rfl, ?_⟩) ?_ ?_
                        rotate_left
                        · intro w'
                          go_simp
                          with_reducible rfl
                        rotate_left
                        · simp only [Act.put, List.setIfInBounds_toArray, List.set_cons_zero, List.set_cons_succ, i64_w, i32_w]
                          rfl
                        refine take_ (i := 4) (N := some 27) (v := ?_) (a' := ?_) #[true, true, true, true, true, true, true, true, true, false, false, false, true, true, true, true, true, false, true, true, true, true, false, true, true, true, true, false, false, false, false, false, false, false] rfl rfl (take_ofW HT_.out HW_.out (by kernel_rfl)) (fun _ _ _ h => h) (Or.inl ⟨by rfl, ?_⟩) hHeld ?_ ?_
                        rotate_left
                        · rintro w' ⟨s0, s1, s2, s3, s4, s5, s6, s7, s8, s9, s10, s11, s12, s13, s14⟩
                          go_simp
                          with_reducible rfl
                        rotate_left
                        · simp only [Act.put, List.setIfInBounds_toArray, List.set_cons_zero, List.set_cons_succ, i64_w, i32_w]
                          rfl
                        refine take_ (i := 9) (N := some 32) (v := ?_) (a' := ?_) #[true, true, true, true, true, true, true, true, true, true, false, false, true, true, true, true, true, false, true, true, true, true, false, true, true, true, true, false, false, false, false, false, false, false] rfl rfl (take_ofW HT_.out HW_.out (by kernel_rfl)) (fun _ _ _ h => h) (Or.inl ⟨by rfl, ?_⟩) hHeld ?_ ?_
                        rotate_left
                        · rintro w' ⟨s0, s1, s2, s3, s4, s5, s6, s7, s8, s9, s10, s11, s12, s13, s14⟩
                          go_simp
                          with_reducible rfl
                        rotate_left
                        · simp only [Act.put, List.setIfInBounds_toArray, List.set_cons_zero, List.set_cons_succ, i64_w, i32_w]
                          rfl
                        refine pure_ (i := 10) (N := some 33) (v := ?_) (a' := ?_) #[true, true, true, true, true, true, true, true, true, true, true, false, true, true, true, true, true, false, true, true, true, true, false, true, true, true, true, false, false, false, false, false, false, false] rfl rfl (any_of HT_.out (by kernel_rfl)) (fun _ _ _ h => h) (Or.inl ⟨by rfl, ?_⟩) ?_ ?_
                        rotate_left
                        · intro w'
                          go_simp
                          with_reducible rfl
                        rotate_left
                        · simp only [Act.put, List.setIfInBounds_toArray, List.set_cons_zero, List.set_cons_succ, i64_w, i32_w]
                          rfl
                        refine take_ (i := 17) (N := some 40) (v := ?_) (a' := ?_) #[true, true, true, true, true, true, true, true, true, true, true, false, true, true, true, true, true, true, true, true, true, true, false, true, true, true, true, false, false, false, false, false, false, false] rfl rfl (take_ofW HT_.out HW_.out (by kernel_rfl)) (fun _ _ _ h => h) (Or.inl ⟨by rfl, ?_⟩) hHeld ?_ ?_
                        rotate_left
                        · rintro w' ⟨s0, s1, s2, s3, s4, s5, s6, s7, s8, s9, s10, s11, s12, s13, s14⟩
                          go_simp
                          with_reducible rfl
                        rotate_left
                        · simp only [Act.put, List.setIfInBounds_toArray, List.set_cons_zero, List.set_cons_succ, i64_w, i32_w]
                          rfl
                        refine take_ (i := 22) (N := some 45) (v := ?_) (a' := ?_) #[true, true, true, true, true, true, true, true, true, true, true, false, true, true, true, true, true, true, true, true, true, true, true, true, true, true, true, false, false, false, false, false, false, false] rfl rfl (take_ofW HT_.out HW_.out (by kernel_rfl)) (fun _ _ _ h => h) (Or.inl ⟨by rfl, ?_⟩) hHeld ?_ ?_
                        rotate_left
                        · rintro w' ⟨s0, s1, s2, s3, s4, s5, s6, s7, s8, s9, s10, s11, s12, s13, s14⟩
                          go_simp
                          with_reducible rfl
                        rotate_left
                        · simp only [Act.put, List.setIfInBounds_toArray, List.set_cons_zero, List.set_cons_succ, i64_w, i32_w]
                          rfl
                        refine take_ (i := 27) (N := some 50) (v := ?_) (a' := ?_) #[true, true, true, true, true, true, true, true, true, true, true, false, true, true, true, true, true, true, true, true, true, true, true, true, true, true, true, true, false, false, false, false, false, false] rfl rfl (take_ofW HT_.out HW_.out (by kernel_rfl)) (fun _ _ _ h => h) (Or.inl ⟨by rfl, ?_⟩) hHeld ?_ ?_
                        rotate_left
                        · rintro w' ⟨s0, s1, s2, s3, s4, s5, s6, s7, s8, s9, s10, s11, s12, s13, s14⟩
                          go_simp
                          with_reducible rfl
                        rotate_left
                        · simp only [Act.put, List.setIfInBounds_toArray, List.set_cons_zero, List.set_cons_succ, i64_w, i32_w]
                          rfl
                        refine pure_ (i := 28) (N := some 51) (v := ?_) (a' := ?_) #[true, true, true, true, true, true, true, true, true, true, true, false, true, true, true, true, true, true, true, true, true, true, true, true, true, true, true, true, true, false, false, false, false, false] rfl rfl (any_of HT_.out (by kernel_rfl)) (fun _ _ _ h => h) (Or.inl ⟨by rfl, ?_⟩) ?_ ?_
                        rotate_left
                        · intro w'
                          go_simp
                          with_reducible rfl
                        rotate_left
                        · simp only [Act.put, List.setIfInBounds_toArray, List.set_cons_zero, List.set_cons_succ, i64_w, i32_w]
                          rfl
                        refine pure_ (i := 29) (N := some 52) (v := ?_) (a' := ?_) #[true, true, true, true, true, true, true, true, true, true, true, false, true, true, true, true, true, true, true, true, true, true, true, true, true, true, true, true, true, true, false, false, false, false] rfl rfl (any_of HT_.out (by kernel_rfl)) (fun _ _ _ h => h) (Or.inl ⟨by rfl, ?_⟩) ?_ ?_
                        rotate_left
                        · intro w'
                          go_simp
                          with_reducible rfl
                        rotate_left
                        · simp only [Act.put, List.setIfInBounds_toArray, List.set_cons_zero, List.set_cons_succ, i64_w, i32_w]
                          rfl
                        refine join_ (σ := Value × Value × Nat) 1 #[true, true, true, true, true, true, true, true, true, true, true, true, true, true, true, true, true, true, true, true, true, true, true, true, true, true, true, true, true, true, true, true, true, false] (fun s_ => [(34, s_.1), (53, s_.2.1), (8, .pointer (some ⟨s_.2.2, 0, none⟩)), (54, .agg #[.int .i64 ((rd_T29 l1 x7_1).f0), .int .i64 (((rd_T29 l1 x7_1).f2).length : Int), s_.2.1])]) (fun s_ w' => (w'.cell? (ad232.add ((x7_1).toNat * 3)) = some (.int .i64 ((rd_T29 l1 x7_1).f0)) ∧ w'.cell? ⟨(ad232.add ((x7_1).toNat * 3)).block, (ad232.add ((x7_1).toNat * 3)).off + 1, none⟩ = some (.int .i64 ((rd_T29 l1 x7_1).f1)) ∧ w'.cell? ⟨(ad232.add ((x7_1).toNat * 3)).block, (ad232.add ((x7_1).toNat * 3)).off + 2, none⟩ = some (.slice A232_2 ((rd_T29 l1 x7_1).f2).length c232_2) ∧ w'.cell? (ad232.add ((x7_1).toNat * 3)) = some (.int .i64 ((rd_T29 l1 x7_1).f0)) ∧ w'.cell? ⟨(ad232.add ((x7_1).toNat * 3)).block, (ad232.add ((x7_1).toNat * 3)).off + 1, none⟩ = some (.int .i64 ((rd_T29 l1 x7_1).f1)) ∧ w'.cell? ⟨(ad232.add ((x7_1).toNat * 3)).block, (ad232.add ((x7_1).toNat * 3)).off + 2, none⟩ = some (.slice A232_2 ((rd_T29 l1 x7_1).f2).length c232_2) ∧ w'.cell? (ad232.add ((x7_1).toNat * 3)) = some (.int .i64 ((rd_T29 l1 x7_1).f0)) ∧ w'.cell? ⟨(ad232.add ((x7_1).toNat * 3)).block, (ad232.add ((x7_1).toNat * 3)).off + 1, none⟩ = some (.int .i64 ((rd_T29 l1 x7_1).f1)) ∧ w'.cell? ⟨(ad232.add ((x7_1).toNat * 3)).block, (ad232.add ((x7_1).toNat * 3)).off + 2, none⟩ = some (.slice A232_2 ((rd_T29 l1 x7_1).f2).length c232_2) ∧ w'.cell? (ad232.add ((x7_1).toNat * 3)) = some (.int .i64 ((rd_T29 l1 x7_1).f0)) ∧ w'.cell? ⟨(ad232.add ((x7_1).toNat * 3)).block, (ad232.add ((x7_1).toNat * 3)).off + 1, none⟩ = some (.int .i64 ((rd_T29 l1 x7_1).f1)) ∧ w'.cell? ⟨(ad232.add ((x7_1).toNat * 3)).block, (ad232.add ((x7_1).toNat * 3)).off + 2, none⟩ = some (.slice A232_2 ((rd_T29 l1 x7_1).f2).length c232_2) ∧ w'.cell? (ad232.add ((x7_1).toNat * 3)) = some (.int .i64 ((rd_T29 l1 x7_1).f0)) ∧ w'.cell? ⟨(ad232.add ((x7_1).toNat * 3)).block, (ad232.add ((x7_1).toNat * 3)).off + 1, none⟩ = some (.int .i64 ((rd_T29 l1 x7_1).f1)) ∧ w'.cell? ⟨(ad232.add ((x7_1).toNat * 3)).block, (ad232.add ((x7_1).toNat * 3)).off + 2, none⟩ = some (.slice A232_2 ((rd_T29 l1 x7_1).f2).length c232_2)) ∧ (Kd.R Kd.string 9 w' w.heap.size (fun _ => True) s_.2.1 y241) ∧ (Kd.S k29 29 w' w.heap.size (fun k_ => some k_ ≠ (s_.2.1 : Value).ownBlock ∧ k_ ≠ s_.2.2) u6 x6_1) ∧ (w'.heap[s_.2.2]? = some (.cells #[.int .i64 0, .int .i64 0, .slice none 0 0] 29 (0, 0))) ∧ (w.heap.size ≤ s_.2.2) ∧ (w.heap.size ≤ s_.2.2) ∧ (Below w.heap.size w w')) ?_ ?_
                        rotate_left
                        · intro hCont
                          refine two_ (i := 11) (j := 32) (Ni := some 34) (Nj := some 8) #[true, true, true, true, true, true, true, true, true, true, true, true, true, true, true, true, true, true, true, true, true, true, true, true, true, true, true, true, true, true, false, false, false, false] #[true, true, true, true, true, true, true, true, true, true, true, false, true, true, true, true, true, true, true, true, true, true, true, true, true, true, true, true, true, true, false, false, true, false] rfl rfl rfl rfl (two_of HT_.out (by kernel_rfl)) (by decide) (by decide) (fun K hK => ?_) (fun K hK => ?_)
                          · skip
                            refine Kd.R_lit_step Kd.string _ 9 ?hg (N := 34) ?hd (xs := ([] : List ByteArray)) (inner := []) (ok := fun _ => True) (okp := fun _ => True) ?hr ?hp (fun _ hk => hk) trivial (Below.refl _ _) (Nat.le_refl _) (by simp) ?_; (case hd => rfl); (case hg => rfl); (case hr => first | (go_simp; done) | (go_simp; rfl)); (case hp => exact (Reps.none _ _))
                            intro v235 w15 ho16 hb hg_ hnew_
                            clear hg_ hnew_
                            (first | rw [← Ny234.out] at ho16 | (simp only [Int.reduceToNat] at ho16; rw [← Ny234.out] at ho16))
                            have n0_ := Aside0.mk (Kd.S_elder' (by (with_reducible repeat (first | apply Kd.S_alloc | apply Kd.S_drewN | apply Kd.S_drew)); exact HO_6.out) (Kd.R_base ho16) hb)
                            have n1_ := Aside0.mk (Kd.R_lower ho16 (below_size (by repeat (first | (with_reducible first | exact HB.out | apply below_alloc | apply pw_below_drewN | apply below_drew1) | exact HB.out))))
                            have n2_ := Aside0.mk (below_step (by repeat (first | (with_reducible first | exact HB.out | apply below_alloc | apply pw_below_drewN | apply below_drew1) | exact HB.out)) hb)
                            clear HO_6
                            clear HB
                            have HO_6 := n0_
                            have HO236 := n1_
                            have HB := n2_
                            clear n0_ n1_ n2_
                            clear hb ho16
                            refine hK.out _ _ ⟨((HB.out.cell (World.block_lt_of_cell? w _ hw232_0)).trans hw232_0), ((HB.out.cell (World.block_lt_of_cell? w _ hw232_1)).trans hw232_1), ((HB.out.cell (World.block_lt_of_cell? w _ hw232_2)).trans hw232_2), ((HB.out.cell (World.block_lt_of_cell? w _ hw233_0)).trans hw233_0), ((HB.out.cell (World.block_lt_of_cell? w _ hw233_1)).trans hw233_1), ((HB.out.cell (World.block_lt_of_cell? w _ hw233_2)).trans hw233_2), ((HB.out.cell (World.block_lt_of_cell? w _ hw237_0)).trans hw237_0), ((HB.out.cell (World.block_lt_of_cell? w _ hw237_1)).trans hw237_1), ((HB.out.cell (World.block_lt_of_cell? w _ hw237_2)).trans hw237_2), ((HB.out.cell (World.block_lt_of_cell? w _ hw238_0)).trans hw238_0), ((HB.out.cell (World.block_lt_of_cell? w _ hw238_1)).trans hw238_1), ((HB.out.cell (World.block_lt_of_cell? w _ hw238_2)).trans hw238_2), ((HB.out.cell (World.block_lt_of_cell? w _ hw239_0)).trans hw239_0), ((HB.out.cell (World.block_lt_of_cell? w _ hw239_1)).trans hw239_1), ((HB.out.cell (World.block_lt_of_cell? w _ hw239_2)).trans hw239_2)⟩ (fun hHeld => ?_)
                            clear hK K
                            refine norm_ (a' := ?_) ?_ ?_
                            rotate_left
                            · show Act.put _ (some 34) _ = _
                              simp only [Act.put, List.setIfInBounds_toArray, List.set_cons_zero, List.set_cons_succ, i64_w, i32_w]
                              rfl
                            refine two_ (i := 30) (j := 32) (Ni := some 53) (Nj := some 8) #[true, true, true, true, true, true, true, true, true, true, true, true, true, true, true, true, true, true, true, true, true, true, true, true, true, true, true, true, true, true, true, false, false, false] #[true, true, true, true, true, true, true, true, true, true, true, true, true, true, true, true, true, true, true, true, true, true, true, true, true, true, true, true, true, true, false, false, true, false] rfl rfl rfl rfl (two_of HT_.out (by kernel_rfl)) (by decide) (by decide) (fun K hK => ?_) (fun K hK => ?_)
                            · skip
                              refine Kd.R_append_rows_step Kd.string (w0 := w) w.heap.size (by rfl) (.tmp 34) (.tmp 52) 22 9 (.string ⟨#[]⟩) 16 rfl Try.underlying22 info9 rfl (by decide) (by omega) v235 y234 ((l0.take ((wrap64 (((rd_T29 l1 x7_1).f0) + ((rd_T29 l1 x7_1).f1))) : Int).toNat).drop (((rd_T29 l1 x7_1).f0) : Int).toNat) _ _ _ (fun _ => True) (fun _ => False) rfl rfl ?aO ?aR (fun _ _ h => h) (fun _ h => h.elim) ?aF ?aB ?aS ?aL ?_
                              (case aR => first | (rw [← show ((l0.take ((wrap64 (((rd_T29 l1 x7_1).f0) + ((rd_T29 l1 x7_1).f1))) : Int).toNat).drop (((rd_T29 l1 x7_1).f0) : Int).toNat).length = ((wrap64 (((rd_T29 l1 x7_1).f0) + ((rd_T29 l1 x7_1).f1))).toNat - ((rd_T29 l1 x7_1).f0).toNat) from (by rw [List.length_drop, List.length_take]; have h_ : ((wrap64 (((rd_T29 l1 x7_1).f0) + ((rd_T29 l1 x7_1).f1))) : Int) ≤ (l0.length : Int) := of_decide_eq_true (by first | (with_reducible assumption) | assumption); omega)]; repeat (first | exact (Kd.C_below HR240.out HB.out) | (with_reducible refine Kd.C_alloc ?_ _) | (with_reducible refine Kd.C_drewN ?_ _) | (with_reducible refine Kd.C_drew ?_))) | (repeat (first | exact (Kd.C_below HR240.out HB.out) | (with_reducible refine Kd.C_alloc ?_ _) | (with_reducible refine Kd.C_drewN ?_ _) | (with_reducible refine Kd.C_drew ?_))))
                              (case aB => exact (by repeat (first | (with_reducible first | exact HB.out | apply below_alloc | apply pw_below_drewN | apply below_drew1) | exact HB.out)))
                              (case aF => exact (fun _ _ => trivial))
                              (case aO => exact (by (with_reducible repeat (first | apply Kd.R_alloc | apply Kd.R_drewN | apply Kd.R_drew)); exact HO236.out))
                              (case aS => exact (below_size (by repeat (first | (with_reducible first | exact HB.out | apply below_alloc | apply pw_below_drewN | apply below_drew1) | exact HB.out))))
                              (case aL => have := LMc12.out; have hlx_ := (show ((l0.take ((wrap64 (((rd_T29 l1 x7_1).f0) + ((rd_T29 l1 x7_1).f1))) : Int).toNat).drop (((rd_T29 l1 x7_1).f0) : Int).toNat).length = ((wrap64 (((rd_T29 l1 x7_1).f0) + ((rd_T29 l1 x7_1).f1))).toNat - ((rd_T29 l1 x7_1).f0).toNat) from (by rw [List.length_drop, List.length_take]; have h_ : ((wrap64 (((rd_T29 l1 x7_1).f0) + ((rd_T29 l1 x7_1).f1))) : Int) ≤ (l0.length : Int) := of_decide_eq_true (by first | (with_reducible assumption) | assumption); omega)); omega)
                              intro v242 w17 ho hb hg hat
                              rw [← Ny241.out] at ho
                              have n0_ := Aside0.mk (Kd.S_after (ok := (fun _ => True)) (by (with_reducible repeat (first | apply Kd.S_alloc | apply Kd.S_drewN | apply Kd.S_drew)); exact HO_6.out) hg hat)
                              have n1_ := Aside0.mk (hb)
                              have n2_ := Aside0.mk (ho)
                              clear HO_6
                              clear HB
                              clear HO236
                              have HO_6 := n0_
                              have HB := n1_
                              have HO243 := n2_
                              clear n0_ n1_ n2_
                              clear ho hb hg hat
                              obtain ⟨Ao18, co18, eo18⟩ := Kd.R_slice HO243.out
                              (first | subst eo18 | (injection eo18 with f1_ f2_ f3_; have f4_ := f1_.symm; have f5_ := f3_.symm; clear f1_ f2_ f3_; subst f4_; subst f5_))
                              refine hK.out _ _ ⟨((HB.out.cell (World.block_lt_of_cell? w _ hw232_0)).trans hw232_0), ((HB.out.cell (World.block_lt_of_cell? w _ hw232_1)).trans hw232_1), ((HB.out.cell (World.block_lt_of_cell? w _ hw232_2)).trans hw232_2), ((HB.out.cell (World.block_lt_of_cell? w _ hw233_0)).trans hw233_0), ((HB.out.cell (World.block_lt_of_cell? w _ hw233_1)).trans hw233_1), ((HB.out.cell (World.block_lt_of_cell? w _ hw233_2)).trans hw233_2), ((HB.out.cell (World.block_lt_of_cell? w _ hw237_0)).trans hw237_0), ((HB.out.cell (World.block_lt_of_cell? w _ hw237_1)).trans hw237_1), ((HB.out.cell (World.block_lt_of_cell? w _ hw237_2)).trans hw237_2), ((HB.out.cell (World.block_lt_of_cell? w _ hw238_0)).trans hw238_0), ((HB.out.cell (World.block_lt_of_cell? w _ hw238_1)).trans hw238_1), ((HB.out.cell (World.block_lt_of_cell? w _ hw238_2)).trans hw238_2), ((HB.out.cell (World.block_lt_of_cell? w _ hw239_0)).trans hw239_0), ((HB.out.cell (World.block_lt_of_cell? w _ hw239_1)).trans hw239_1), ((HB.out.cell (World.block_lt_of_cell? w _ hw239_2)).trans hw239_2)⟩ (fun hHeld => ?_)
                              clear hK K
                              refine norm_ (a' := ?_) ?_ ?_
                              rotate_left
                              · show Act.put _ (some 53) _ = _
                                simp only [Act.put, List.setIfInBounds_toArray, List.set_cons_zero, List.set_cons_succ, i64_w, i32_w]
                                rfl
                              refine pure_ (i := 31) (N := some 54) (v := ?_) (a' := ?_) #[true, true, true, true, true, true, true, true, true, true, true, true, true, true, true, true, true, true, true, true, true, true, true, true, true, true, true, true, true, true, true, true, false, false] rfl rfl (any_of HT_.out (by kernel_rfl)) (fun _ _ _ h => h) (Or.inl ⟨by rfl, ?_⟩) ?_ ?_
                              rotate_left
                              · intro w'
                                go_simp
                                with_reducible rfl
                              rotate_left
                              · simp only [Act.put, List.setIfInBounds_toArray, List.set_cons_zero, List.set_cons_succ, i64_w, i32_w]
                                rfl
                              refine one_ (i := 32) (N := some 8) #[true, true, true, true, true, true, true, true, true, true, true, true, true, true, true, true, true, true, true, true, true, true, true, true, true, true, true, true, true, true, true, true, true, false] rfl rfl (one_of HT_.out (by kernel_rfl)) (by decide) (fun K hK => ?_)
                              refine box_step ?hg (N := 8) ?hd (cs := #[.int .i64 0, .int .i64 0, .slice none 0 0]) (t := 29) ?hr ?_; (case hd => rfl); (case hg => rfl); (case hr => first | (go_simp; done) | (go_simp; rfl))
                              intro gb244 hg w19 hbox hb
                              have n0_ := Aside0.mk (Kd.S_below (Kd.S_elderB (by (with_reducible repeat (first | apply Kd.S_alloc | apply Kd.S_drewN | apply Kd.S_drew)); exact HO_6.out) gb244 (Nat.le_of_eq hg.symm)) hb)
                              have n1_ := Aside0.mk (Kd.R_below (by (with_reducible repeat (first | apply Kd.R_alloc | apply Kd.R_drewN | apply Kd.R_drew)); exact HO243.out) hb)
                              have n2_ := Aside0.mk (below_step (by repeat (first | (with_reducible first | exact HB.out | apply below_alloc | apply pw_below_drewN | apply below_drew1) | exact HB.out)) hb)
                              have n3_ := Aside0.mk (hbox)
                              have n4_ := Aside0.mk ((by rw [hg]; exact (below_size (by repeat (first | (with_reducible first | exact HB.out | apply below_alloc | apply pw_below_drewN | apply below_drew1) | exact HB.out))) : w.heap.size ≤ gb244))
                              have n5_ := Aside0.mk ((by rw [hg]; exact (below_size (by repeat (first | (with_reducible first | exact HB.out | apply below_alloc | apply pw_below_drewN | apply below_drew1) | exact HB.out))) : w.heap.size ≤ gb244))
                              clear HO_6
                              clear HO243
                              clear HB
                              have HO_6 := n0_
                              have HO243 := n1_
                              have HB := n2_
                              have BK244 := n3_
                              have GW244 := n4_
                              have GE244 := n5_
                              clear n0_ n1_ n2_ n3_ n4_ n5_
                              clear hb hbox hg
                              refine hK.out _ _ ⟨((HB.out.cell (World.block_lt_of_cell? w _ hw232_0)).trans hw232_0), ((HB.out.cell (World.block_lt_of_cell? w _ hw232_1)).trans hw232_1), ((HB.out.cell (World.block_lt_of_cell? w _ hw232_2)).trans hw232_2), ((HB.out.cell (World.block_lt_of_cell? w _ hw233_0)).trans hw233_0), ((HB.out.cell (World.block_lt_of_cell? w _ hw233_1)).trans hw233_1), ((HB.out.cell (World.block_lt_of_cell? w _ hw233_2)).trans hw233_2), ((HB.out.cell (World.block_lt_of_cell? w _ hw237_0)).trans hw237_0), ((HB.out.cell (World.block_lt_of_cell? w _ hw237_1)).trans hw237_1), ((HB.out.cell (World.block_lt_of_cell? w _ hw237_2)).trans hw237_2), ((HB.out.cell (World.block_lt_of_cell? w _ hw238_0)).trans hw238_0), ((HB.out.cell (World.block_lt_of_cell? w _ hw238_1)).trans hw238_1), ((HB.out.cell (World.block_lt_of_cell? w _ hw238_2)).trans hw238_2), ((HB.out.cell (World.block_lt_of_cell? w _ hw239_0)).trans hw239_0), ((HB.out.cell (World.block_lt_of_cell? w _ hw239_1)).trans hw239_1), ((HB.out.cell (World.block_lt_of_cell? w _ hw239_2)).trans hw239_2)⟩ (fun hHeld => ?_)
                              clear hK K
                              refine norm_ (a' := ?_) ?_ ?_
                              rotate_left
                              · show Act.put _ (some 8) _ = _
                                simp only [Act.put, List.setIfInBounds_toArray, List.set_cons_zero, List.set_cons_succ, i64_w, i32_w]
                                rfl
                              exact norm_ (by simp only [putAll, Act.put, List.setIfInBounds_toArray, List.set_cons_zero, List.set_cons_succ]) (hCont (v235, .slice Ao18 y241.length co18, gb244) _ ⟨hHeld, (by (with_reducible repeat (first | apply Kd.R_alloc | apply Kd.R_drewN | apply Kd.R_drew)); exact HO243.out), (by (with_reducible repeat (first | apply Kd.S_alloc | apply Kd.S_drewN | apply Kd.S_drew)); exact Kd.S_mono HO_6.out (fun _ hk => ⟨hk.1.2, hk.2⟩)), (by (with_reducible repeat (first | refine blk_drewN ?_ _ | refine blk_drew ?_ | refine blk_alloc ?_ _)); exact BK244.out), GW244.out, GE244.out, (by repeat (first | (with_reducible first | exact HB.out | apply below_alloc | apply pw_below_drewN | apply below_drew1 | refine below_set ?_ GE244.out) | exact HB.out))⟩)
                            · skip
                              refine box_step ?hg (N := 8) ?hd (cs := #[.int .i64 0, .int .i64 0, .slice none 0 0]) (t := 29) ?hr ?_; (case hd => rfl); (case hg => rfl); (case hr => first | (go_simp; done) | (go_simp; rfl))
                              intro gb244 hg w17 hbox hb
                              have n0_ := Aside0.mk (Kd.S_below (Kd.S_elderB (by (with_reducible repeat (first | apply Kd.S_alloc | apply Kd.S_drewN | apply Kd.S_drew)); exact HO_6.out) gb244 (Nat.le_of_eq hg.symm)) hb)
                              have n1_ := Aside0.mk (Kd.R_below (by (with_reducible repeat (first | apply Kd.R_alloc | apply Kd.R_drewN | apply Kd.R_drew)); exact HO236.out) hb)
                              have n2_ := Aside0.mk (below_step (by repeat (first | (with_reducible first | exact HB.out | apply below_alloc | apply pw_below_drewN | apply below_drew1) | exact HB.out)) hb)
                              have n3_ := Aside0.mk (hbox)
                              have n4_ := Aside0.mk ((by rw [hg]; exact (below_size (by repeat (first | (with_reducible first | exact HB.out | apply below_alloc | apply pw_below_drewN | apply below_drew1) | exact HB.out))) : w.heap.size ≤ gb244))
                              have n5_ := Aside0.mk ((by rw [hg]; exact (below_size (by repeat (first | (with_reducible first | exact HB.out | apply below_alloc | apply pw_below_drewN | apply below_drew1) | exact HB.out))) : w.heap.size ≤ gb244))
                              clear HO_6
                              clear HO236
                              clear HB
                              have HO_6 := n0_
                              have HO236 := n1_
                              have HB := n2_
                              have BK244 := n3_
                              have GW244 := n4_
                              have GE244 := n5_
                              clear n0_ n1_ n2_ n3_ n4_ n5_
                              clear hb hbox hg
                              refine hK.out _ _ ⟨((HB.out.cell (World.block_lt_of_cell? w _ hw232_0)).trans hw232_0), ((HB.out.cell (World.block_lt_of_cell? w _ hw232_1)).trans hw232_1), ((HB.out.cell (World.block_lt_of_cell? w _ hw232_2)).trans hw232_2), ((HB.out.cell (World.block_lt_of_cell? w _ hw233_0)).trans hw233_0), ((HB.out.cell (World.block_lt_of_cell? w _ hw233_1)).trans hw233_1), ((HB.out.cell (World.block_lt_of_cell? w _ hw233_2)).trans hw233_2), ((HB.out.cell (World.block_lt_of_cell? w _ hw237_0)).trans hw237_0), ((HB.out.cell (World.block_lt_of_cell? w _ hw237_1)).trans hw237_1), ((HB.out.cell (World.block_lt_of_cell? w _ hw237_2)).trans hw237_2), ((HB.out.cell (World.block_lt_of_cell? w _ hw238_0)).trans hw238_0), ((HB.out.cell (World.block_lt_of_cell? w _ hw238_1)).trans hw238_1), ((HB.out.cell (World.block_lt_of_cell? w _ hw238_2)).trans hw238_2), ((HB.out.cell (World.block_lt_of_cell? w _ hw239_0)).trans hw239_0), ((HB.out.cell (World.block_lt_of_cell? w _ hw239_1)).trans hw239_1), ((HB.out.cell (World.block_lt_of_cell? w _ hw239_2)).trans hw239_2)⟩ (fun hHeld => ?_)
                              clear hK K
                              refine norm_ (a' := ?_) ?_ ?_
                              rotate_left
                              · show Act.put _ (some 8) _ = _
                                simp only [Act.put, List.setIfInBounds_toArray, List.set_cons_zero, List.set_cons_succ, i64_w, i32_w]
                                rfl
                              refine one_ (i := 30) (N := some 53) #[true, true, true, true, true, true, true, true, true, true, true, true, true, true, true, true, true, true, true, true, true, true, true, true, true, true, true, true, true, true, true, false, true, false] rfl rfl (one_of HT_.out (by kernel_rfl)) (by decide) (fun K hK => ?_)
                              refine Kd.R_append_rows_step Kd.string (w0 := w) w.heap.size (by rfl) (.tmp 34) (.tmp 52) 22 9 (.string ⟨#[]⟩) 16 rfl Try.underlying22 info9 rfl (by decide) (by omega) v235 y234 ((l0.take ((wrap64 (((rd_T29 l1 x7_1).f0) + ((rd_T29 l1 x7_1).f1))) : Int).toNat).drop (((rd_T29 l1 x7_1).f0) : Int).toNat) _ _ _ (fun _ => True) (fun _ => False) rfl rfl ?aO ?aR (fun _ _ h => h) (fun _ h => h.elim) ?aF ?aB ?aS ?aL ?_
                              (case aR => first | (rw [← show ((l0.take ((wrap64 (((rd_T29 l1 x7_1).f0) + ((rd_T29 l1 x7_1).f1))) : Int).toNat).drop (((rd_T29 l1 x7_1).f0) : Int).toNat).length = ((wrap64 (((rd_T29 l1 x7_1).f0) + ((rd_T29 l1 x7_1).f1))).toNat - ((rd_T29 l1 x7_1).f0).toNat) from (by rw [List.length_drop, List.length_take]; have h_ : ((wrap64 (((rd_T29 l1 x7_1).f0) + ((rd_T29 l1 x7_1).f1))) : Int) ≤ (l0.length : Int) := of_decide_eq_true (by first | (with_reducible assumption) | assumption); omega)]; repeat (first | exact (Kd.C_below HR240.out HB.out) | (with_reducible refine Kd.C_alloc ?_ _) | (with_reducible refine Kd.C_drewN ?_ _) | (with_reducible refine Kd.C_drew ?_))) | (repeat (first | exact (Kd.C_below HR240.out HB.out) | (with_reducible refine Kd.C_alloc ?_ _) | (with_reducible refine Kd.C_drewN ?_ _) | (with_reducible refine Kd.C_drew ?_))))
                              (case aB => exact (by repeat (first | (with_reducible first | exact HB.out | apply below_alloc | apply pw_below_drewN | apply below_drew1 | refine below_set ?_ GE244.out) | exact HB.out)))
                              (case aF => exact (fun _ _ => trivial))
                              (case aO => exact (by (with_reducible repeat (first | apply Kd.R_alloc | apply Kd.R_drewN | apply Kd.R_drew)); exact HO236.out))
                              (case aS => exact (below_size (by repeat (first | (with_reducible first | exact HB.out | apply below_alloc | apply pw_below_drewN | apply below_drew1 | refine below_set ?_ GE244.out) | exact HB.out))))
                              (case aL => have := LMc12.out; have hlx_ := (show ((l0.take ((wrap64 (((rd_T29 l1 x7_1).f0) + ((rd_T29 l1 x7_1).f1))) : Int).toNat).drop (((rd_T29 l1 x7_1).f0) : Int).toNat).length = ((wrap64 (((rd_T29 l1 x7_1).f0) + ((rd_T29 l1 x7_1).f1))).toNat - ((rd_T29 l1 x7_1).f0).toNat) from (by rw [List.length_drop, List.length_take]; have h_ : ((wrap64 (((rd_T29 l1 x7_1).f0) + ((rd_T29 l1 x7_1).f1))) : Int) ≤ (l0.length : Int) := of_decide_eq_true (by first | (with_reducible assumption) | assumption); omega)); omega)
                              intro v242 w18 ho hb hg hat
                              rw [← Ny241.out] at ho
                              have n0_ := Aside0.mk (Kd.S_after (ok := (fun k_ => k_ ≠ gb244)) (by (with_reducible repeat (first | apply Kd.S_alloc | apply Kd.S_drewN | apply Kd.S_drew)); exact Kd.S_mono HO_6.out (fun _ hk => ⟨hk.2, hk.1.2⟩)) hg hat)
                              have n1_ := Aside0.mk (blk_grown (g := gb244) (o := .cells #[.int .i64 0, .int .i64 0, .slice none 0 0] 29 (0, 0)) (by (with_reducible repeat (first | refine blk_drewN ?_ _ | refine blk_drew ?_ | refine blk_alloc ?_ _)); exact BK244.out) hg (Kd.R_ne HO236.out BK244.out (by decide)))
                              have n2_ := Aside0.mk (hb)
                              have n3_ := Aside0.mk (ho)
                              clear HO_6
                              clear BK244
                              clear HB
                              clear HO236
                              have HO_6 := n0_
                              have BK244 := n1_
                              have HB := n2_
                              have HO243 := n3_
                              clear n0_ n1_ n2_ n3_
                              clear ho hb hg hat
                              obtain ⟨Ao19, co19, eo19⟩ := Kd.R_slice HO243.out
                              (first | subst eo19 | (injection eo19 with f1_ f2_ f3_; have f4_ := f1_.symm; have f5_ := f3_.symm; clear f1_ f2_ f3_; subst f4_; subst f5_))
                              refine hK.out _ _ ⟨((HB.out.cell (World.block_lt_of_cell? w _ hw232_0)).trans hw232_0), ((HB.out.cell (World.block_lt_of_cell? w _ hw232_1)).trans hw232_1), ((HB.out.cell (World.block_lt_of_cell? w _ hw232_2)).trans hw232_2), ((HB.out.cell (World.block_lt_of_cell? w _ hw233_0)).trans hw233_0), ((HB.out.cell (World.block_lt_of_cell? w _ hw233_1)).trans hw233_1), ((HB.out.cell (World.block_lt_of_cell? w _ hw233_2)).trans hw233_2), ((HB.out.cell (World.block_lt_of_cell? w _ hw237_0)).trans hw237_0), ((HB.out.cell (World.block_lt_of_cell? w _ hw237_1)).trans hw237_1), ((HB.out.cell (World.block_lt_of_cell? w _ hw237_2)).trans hw237_2), ((HB.out.cell (World.block_lt_of_cell? w _ hw238_0)).trans hw238_0), ((HB.out.cell (World.block_lt_of_cell? w _ hw238_1)).trans hw238_1), ((HB.out.cell (World.block_lt_of_cell? w _ hw238_2)).trans hw238_2), ((HB.out.cell (World.block_lt_of_cell? w _ hw239_0)).trans hw239_0), ((HB.out.cell (World.block_lt_of_cell? w _ hw239_1)).trans hw239_1), ((HB.out.cell (World.block_lt_of_cell? w _ hw239_2)).trans hw239_2)⟩ (fun hHeld => ?_)
                              clear hK K
                              refine norm_ (a' := ?_) ?_ ?_
                              rotate_left
                              · show Act.put _ (some 53) _ = _
                                simp only [Act.put, List.setIfInBounds_toArray, List.set_cons_zero, List.set_cons_succ, i64_w, i32_w]
                                rfl
                              refine pure_ (i := 31) (N := some 54) (v := ?_) (a' := ?_) #[true, true, true, true, true, true, true, true, true, true, true, true, true, true, true, true, true, true, true, true, true, true, true, true, true, true, true, true, true, true, true, true, true, false] rfl rfl (any_of HT_.out (by kernel_rfl)) (fun _ _ _ h => h) (Or.inl ⟨by rfl, ?_⟩) ?_ ?_
                              rotate_left
                              · intro w'
                                go_simp
                                with_reducible rfl
                              rotate_left
                              · simp only [Act.put, List.setIfInBounds_toArray, List.set_cons_zero, List.set_cons_succ, i64_w, i32_w]
                                rfl
                              exact norm_ (by simp only [putAll, Act.put, List.setIfInBounds_toArray, List.set_cons_zero, List.set_cons_succ]) (hCont (v235, .slice Ao19 y241.length co19, gb244) _ ⟨hHeld, (by (with_reducible repeat (first | apply Kd.R_alloc | apply Kd.R_drewN | apply Kd.R_drew)); exact HO243.out), (by (with_reducible repeat (first | apply Kd.S_alloc | apply Kd.S_drewN | apply Kd.S_drew)); exact Kd.S_mono HO_6.out (fun _ hk => ⟨hk.2, hk.1⟩)), (by (with_reducible repeat (first | refine blk_drewN ?_ _ | refine blk_drew ?_ | refine blk_alloc ?_ _)); exact BK244.out), GW244.out, GE244.out, (by repeat (first | (with_reducible first | exact HB.out | apply below_alloc | apply pw_below_drewN | apply below_drew1 | refine below_set ?_ GE244.out) | exact HB.out))⟩)
                          · skip
                            refine box_step ?hg (N := 8) ?hd (cs := #[.int .i64 0, .int .i64 0, .slice none 0 0]) (t := 29) ?hr ?_; (case hd => rfl); (case hg => rfl); (case hr => first | (go_simp; done) | (go_simp; rfl))
                            intro gb244 hg w15 hbox hb
                            have n0_ := Aside0.mk (Kd.S_below (Kd.S_elderB (by (with_reducible repeat (first | apply Kd.S_alloc | apply Kd.S_drewN | apply Kd.S_drew)); exact HO_6.out) gb244 (Nat.le_of_eq hg.symm)) hb)
                            have n1_ := Aside0.mk (below_step (by repeat (first | (with_reducible first | exact HB.out | apply below_alloc | apply pw_below_drewN | apply below_drew1) | exact HB.out)) hb)
                            have n2_ := Aside0.mk (hbox)
                            have n3_ := Aside0.mk ((by rw [hg]; exact (below_size (by repeat (first | (with_reducible first | exact HB.out | apply below_alloc | apply pw_below_drewN | apply below_drew1) | exact HB.out))) : w.heap.size ≤ gb244))
                            have n4_ := Aside0.mk ((by rw [hg]; exact (below_size (by repeat (first | (with_reducible first | exact HB.out | apply below_alloc | apply pw_below_drewN | apply below_drew1) | exact HB.out))) : w.heap.size ≤ gb244))
                            clear HO_6
                            clear HB
                            have HO_6 := n0_
                            have HB := n1_
                            have BK244 := n2_
                            have GW244 := n3_
                            have GE244 := n4_
                            clear n0_ n1_ n2_ n3_ n4_
                            clear hb hbox hg
                            refine hK.out _ _ ⟨((HB.out.cell (World.block_lt_of_cell? w _ hw232_0)).trans hw232_0), ((HB.out.cell (World.block_lt_of_cell? w _ hw232_1)).trans hw232_1), ((HB.out.cell (World.block_lt_of_cell? w _ hw232_2)).trans hw232_2), ((HB.out.cell (World.block_lt_of_cell? w _ hw233_0)).trans hw233_0), ((HB.out.cell (World.block_lt_of_cell? w _ hw233_1)).trans hw233_1), ((HB.out.cell (World.block_lt_of_cell? w _ hw233_2)).trans hw233_2), ((HB.out.cell (World.block_lt_of_cell? w _ hw237_0)).trans hw237_0), ((HB.out.cell (World.block_lt_of_cell? w _ hw237_1)).trans hw237_1), ((HB.out.cell (World.block_lt_of_cell? w _ hw237_2)).trans hw237_2), ((HB.out.cell (World.block_lt_of_cell? w _ hw238_0)).trans hw238_0), ((HB.out.cell (World.block_lt_of_cell? w _ hw238_1)).trans hw238_1), ((HB.out.cell (World.block_lt_of_cell? w _ hw238_2)).trans hw238_2), ((HB.out.cell (World.block_lt_of_cell? w _ hw239_0)).trans hw239_0), ((HB.out.cell (World.block_lt_of_cell? w _ hw239_1)).trans hw239_1), ((HB.out.cell (World.block_lt_of_cell? w _ hw239_2)).trans hw239_2)⟩ (fun hHeld => ?_)
                            clear hK K
                            refine norm_ (a' := ?_) ?_ ?_
                            rotate_left
                            · show Act.put _ (some 8) _ = _
                              simp only [Act.put, List.setIfInBounds_toArray, List.set_cons_zero, List.set_cons_succ, i64_w, i32_w]
                              rfl
                            refine one_ (i := 11) (N := some 34) #[true, true, true, true, true, true, true, true, true, true, true, true, true, true, true, true, true, true, true, true, true, true, true, true, true, true, true, true, true, true, false, false, true, false] rfl rfl (one_of HT_.out (by kernel_rfl)) (by decide) (fun K hK => ?_)
                            refine Kd.R_lit_step Kd.string _ 9 ?hg (N := 34) ?hd (xs := ([] : List ByteArray)) (inner := []) (ok := fun _ => True) (okp := fun _ => True) ?hr ?hp (fun _ hk => hk) trivial (Below.refl _ _) (Nat.le_refl _) (by simp) ?_; (case hd => rfl); (case hg => rfl); (case hr => first | (go_simp; done) | (go_simp; rfl)); (case hp => exact (Reps.none _ _))
                            intro v235 w16 ho17 hb hg_ hnew_
                            clear hg_ hnew_
                            (first | rw [← Ny234.out] at ho17 | (simp only [Int.reduceToNat] at ho17; rw [← Ny234.out] at ho17))
                            have n0_ := Aside0.mk (Kd.S_elder' (by (with_reducible repeat (first | apply Kd.S_alloc | apply Kd.S_drewN | apply Kd.S_drew)); exact HO_6.out) (Kd.R_base ho17) hb)
                            have n1_ := Aside0.mk (Kd.R_lower ho17 (below_size (by repeat (first | (with_reducible first | exact HB.out | apply below_alloc | apply pw_below_drewN | apply below_drew1 | refine below_set ?_ GE244.out) | exact HB.out))))
                            have n2_ := Aside0.mk (blk_below (g := gb244) (o := .cells #[.int .i64 0, .int .i64 0, .slice none 0 0] 29 (0, 0)) (by (with_reducible repeat (first | refine blk_drewN ?_ _ | refine blk_drew ?_ | refine blk_alloc ?_ _)); exact BK244.out) hb)
                            have n3_ := Aside0.mk (below_step (by repeat (first | (with_reducible first | exact HB.out | apply below_alloc | apply pw_below_drewN | apply below_drew1 | refine below_set ?_ GE244.out) | exact HB.out)) hb)
                            clear HO_6
                            clear BK244
                            clear HB
                            have HO_6 := n0_
                            have HO236 := n1_
                            have BK244 := n2_
                            have HB := n3_
                            clear n0_ n1_ n2_ n3_
                            clear hb ho17
                            refine hK.out _ _ ⟨((HB.out.cell (World.block_lt_of_cell? w _ hw232_0)).trans hw232_0), ((HB.out.cell (World.block_lt_of_cell? w _ hw232_1)).trans hw232_1), ((HB.out.cell (World.block_lt_of_cell? w _ hw232_2)).trans hw232_2), ((HB.out.cell (World.block_lt_of_cell? w _ hw233_0)).trans hw233_0), ((HB.out.cell (World.block_lt_of_cell? w _ hw233_1)).trans hw233_1), ((HB.out.cell (World.block_lt_of_cell? w _ hw233_2)).trans hw233_2), ((HB.out.cell (World.block_lt_of_cell? w _ hw237_0)).trans hw237_0), ((HB.out.cell (World.block_lt_of_cell? w _ hw237_1)).trans hw237_1), ((HB.out.cell (World.block_lt_of_cell? w _ hw237_2)).trans hw237_2), ((HB.out.cell (World.block_lt_of_cell? w _ hw238_0)).trans hw238_0), ((HB.out.cell (World.block_lt_of_cell? w _ hw238_1)).trans hw238_1), ((HB.out.cell (World.block_lt_of_cell? w _ hw238_2)).trans hw238_2), ((HB.out.cell (World.block_lt_of_cell? w _ hw239_0)).trans hw239_0), ((HB.out.cell (World.block_lt_of_cell? w _ hw239_1)).trans hw239_1), ((HB.out.cell (World.block_lt_of_cell? w _ hw239_2)).trans hw239_2)⟩ (fun hHeld => ?_)
                            clear hK K
                            refine norm_ (a' := ?_) ?_ ?_
                            rotate_left
                            · show Act.put _ (some 34) _ = _
                              simp only [Act.put, List.setIfInBounds_toArray, List.set_cons_zero, List.set_cons_succ, i64_w, i32_w]
                              rfl
                            refine one_ (i := 30) (N := some 53) #[true, true, true, true, true, true, true, true, true, true, true, true, true, true, true, true, true, true, true, true, true, true, true, true, true, true, true, true, true, true, true, false, true, false] rfl rfl (one_of HT_.out (by kernel_rfl)) (by decide) (fun K hK => ?_)
                            refine Kd.R_append_rows_step Kd.string (w0 := w) w.heap.size (by rfl) (.tmp 34) (.tmp 52) 22 9 (.string ⟨#[]⟩) 16 rfl Try.underlying22 info9 rfl (by decide) (by omega) v235 y234 ((l0.take ((wrap64 (((rd_T29 l1 x7_1).f0) + ((rd_T29 l1 x7_1).f1))) : Int).toNat).drop (((rd_T29 l1 x7_1).f0) : Int).toNat) _ _ _ (fun _ => True) (fun _ => False) rfl rfl ?aO ?aR (fun _ _ h => h) (fun _ h => h.elim) ?aF ?aB ?aS ?aL ?_
                            (case aR => first | (rw [← show ((l0.take ((wrap64 (((rd_T29 l1 x7_1).f0) + ((rd_T29 l1 x7_1).f1))) : Int).toNat).drop (((rd_T29 l1 x7_1).f0) : Int).toNat).length = ((wrap64 (((rd_T29 l1 x7_1).f0) + ((rd_T29 l1 x7_1).f1))).toNat - ((rd_T29 l1 x7_1).f0).toNat) from (by rw [List.length_drop, List.length_take]; have h_ : ((wrap64 (((rd_T29 l1 x7_1).f0) + ((rd_T29 l1 x7_1).f1))) : Int) ≤ (l0.length : Int) := of_decide_eq_true (by first | (with_reducible assumption) | assumption); omega)]; repeat (first | exact (Kd.C_below HR240.out HB.out) | (with_reducible refine Kd.C_alloc ?_ _) | (with_reducible refine Kd.C_drewN ?_ _) | (with_reducible refine Kd.C_drew ?_))) | (repeat (first | exact (Kd.C_below HR240.out HB.out) | (with_reducible refine Kd.C_alloc ?_ _) | (with_reducible refine Kd.C_drewN ?_ _) | (with_reducible refine Kd.C_drew ?_))))
                            (case aB => exact (by repeat (first | (with_reducible first | exact HB.out | apply below_alloc | apply pw_below_drewN | apply below_drew1 | refine below_set ?_ GE244.out) | exact HB.out)))
                            (case aF => exact (fun _ _ => trivial))
                            (case aO => exact (by (with_reducible repeat (first | apply Kd.R_alloc | apply Kd.R_drewN | apply Kd.R_drew)); exact HO236.out))
                            (case aS => exact (below_size (by repeat (first | (with_reducible first | exact HB.out | apply below_alloc | apply pw_below_drewN | apply below_drew1 | refine below_set ?_ GE244.out) | exact HB.out))))
                            (case aL => have := LMc12.out; have hlx_ := (show ((l0.take ((wrap64 (((rd_T29 l1 x7_1).f0) + ((rd_T29 l1 x7_1).f1))) : Int).toNat).drop (((rd_T29 l1 x7_1).f0) : Int).toNat).length = ((wrap64 (((rd_T29 l1 x7_1).f0) + ((rd_T29 l1 x7_1).f1))).toNat - ((rd_T29 l1 x7_1).f0).toNat) from (by rw [List.length_drop, List.length_take]; have h_ : ((wrap64 (((rd_T29 l1 x7_1).f0) + ((rd_T29 l1 x7_1).f1))) : Int) ≤ (l0.length : Int) := of_decide_eq_true (by first | (with_reducible assumption) | assumption); omega)); omega)
                            intro v242 w18 ho hb hg hat
                            rw [← Ny241.out] at ho
                            have n0_ := Aside0.mk (Kd.S_after (ok := (fun k_ => k_ ≠ gb244)) (by (with_reducible repeat (first | apply Kd.S_alloc | apply Kd.S_drewN | apply Kd.S_drew)); exact Kd.S_mono HO_6.out (fun _ hk => ⟨hk.1.2, hk.2⟩)) hg hat)
                            have n1_ := Aside0.mk (blk_grown (g := gb244) (o := .cells #[.int .i64 0, .int .i64 0, .slice none 0 0] 29 (0, 0)) (by (with_reducible repeat (first | refine blk_drewN ?_ _ | refine blk_drew ?_ | refine blk_alloc ?_ _)); exact BK244.out) hg (Kd.R_ne HO236.out BK244.out (by decide)))
                            have n2_ := Aside0.mk (hb)
                            have n3_ := Aside0.mk (ho)
                            clear HO_6
                            clear BK244
                            clear HB
                            clear HO236
                            have HO_6 := n0_
                            have BK244 := n1_
                            have HB := n2_
                            have HO243 := n3_
                            clear n0_ n1_ n2_ n3_
                            clear ho hb hg hat
                            obtain ⟨Ao19, co19, eo19⟩ := Kd.R_slice HO243.out
                            (first | subst eo19 | (injection eo19 with f1_ f2_ f3_; have f4_ := f1_.symm; have f5_ := f3_.symm; clear f1_ f2_ f3_; subst f4_; subst f5_))
                            refine hK.out _ _ ⟨((HB.out.cell (World.block_lt_of_cell? w _ hw232_0)).trans hw232_0), ((HB.out.cell (World.block_lt_of_cell? w _ hw232_1)).trans hw232_1), ((HB.out.cell (World.block_lt_of_cell? w _ hw232_2)).trans hw232_2), ((HB.out.cell (World.block_lt_of_cell? w _ hw233_0)).trans hw233_0), ((HB.out.cell (World.block_lt_of_cell? w _ hw233_1)).trans hw233_1), ((HB.out.cell (World.block_lt_of_cell? w _ hw233_2)).trans hw233_2), ((HB.out.cell (World.block_lt_of_cell? w _ hw237_0)).trans hw237_0), ((HB.out.cell (World.block_lt_of_cell? w _ hw237_1)).trans hw237_1), ((HB.out.cell (World.block_lt_of_cell? w _ hw237_2)).trans hw237_2), ((HB.out.cell (World.block_lt_of_cell? w _ hw238_0)).trans hw238_0), ((HB.out.cell (World.block_lt_of_cell? w _ hw238_1)).trans hw238_1), ((HB.out.cell (World.block_lt_of_cell? w _ hw238_2)).trans hw238_2), ((HB.out.cell (World.block_lt_of_cell? w _ hw239_0)).trans hw239_0), ((HB.out.cell (World.block_lt_of_cell? w _ hw239_1)).trans hw239_1), ((HB.out.cell (World.block_lt_of_cell? w _ hw239_2)).trans hw239_2)⟩ (fun hHeld => ?_)
                            clear hK K
                            refine norm_ (a' := ?_) ?_ ?_
                            rotate_left
                            · show Act.put _ (some 53) _ = _
                              simp only [Act.put, List.setIfInBounds_toArray, List.set_cons_zero, List.set_cons_succ, i64_w, i32_w]
                              rfl
                            refine pure_ (i := 31) (N := some 54) (v := ?_) (a' := ?_) #[true, true, true, true, true, true, true, true, true, true, true, true, true, true, true, true, true, true, true, true, true, true, true, true, true, true, true, true, true, true, true, true, true, false] rfl rfl (any_of HT_.out (by kernel_rfl)) (fun _ _ _ h => h) (Or.inl ⟨by rfl, ?_⟩) ?_ ?_
                            rotate_left
                            · intro w'
                              go_simp
                              with_reducible rfl
                            rotate_left
                            · simp only [Act.put, List.setIfInBounds_toArray, List.set_cons_zero, List.set_cons_succ, i64_w, i32_w]
                              rfl
                            exact norm_ (by simp only [putAll, Act.put, List.setIfInBounds_toArray, List.set_cons_zero, List.set_cons_succ]) (hCont (v235, .slice Ao19 y241.length co19, gb244) _ ⟨hHeld, (by (with_reducible repeat (first | apply Kd.R_alloc | apply Kd.R_drewN | apply Kd.R_drew)); exact HO243.out), (by (with_reducible repeat (first | apply Kd.S_alloc | apply Kd.S_drewN | apply Kd.S_drew)); exact Kd.S_mono HO_6.out (fun _ hk => ⟨hk.2, hk.1⟩)), (by (with_reducible repeat (first | refine blk_drewN ?_ _ | refine blk_drew ?_ | refine blk_alloc ?_ _)); exact BK244.out), GW244.out, GE244.out, (by repeat (first | (with_reducible first | exact HB.out | apply below_alloc | apply pw_below_drewN | apply below_drew1 | refine below_set ?_ GE244.out) | exact HB.out))⟩)
                        rintro ⟨v235, v242, gb244⟩ w20 ⟨hS_, h0_, h1_, h2_, h3_, h4_, h5_⟩
                        have n0_ : Aside0 (Kd.R Kd.string 9 w20 w.heap.size (fun _ => True) v242 y241) := ⟨h0_⟩
                        have n1_ : Aside0 (Kd.S k29 29 w20 w.heap.size (fun k_ => some k_ ≠ (v242 : Value).ownBlock ∧ k_ ≠ gb244) u6 x6_1) := ⟨h1_⟩
                        have n2_ : Aside0 (w20.heap[gb244]? = some (.cells #[.int .i64 0, .int .i64 0, .slice none 0 0] 29 (0, 0))) := ⟨h2_⟩
                        have n3_ : Aside0 (w.heap.size ≤ gb244) := ⟨h3_⟩
                        have n4_ : Aside0 (w.heap.size ≤ gb244) := ⟨h4_⟩
                        have n5_ : Aside0 (Below w.heap.size w w20) := ⟨h5_⟩
                        clear HO_6
                        clear HB
                        clear h0_ h1_ h2_ h3_ h4_ h5_
                        have HO243 := n0_
                        have HO_6 := n1_
                        have BK244 := n2_
                        have GW244 := n3_
                        have GE244 := n4_
                        have HB := n5_
                        clear n0_ n1_ n2_ n3_ n4_ n5_
                        have hHeld : w20.cell? (ad232.add ((x7_1).toNat * 3)) = some (.int .i64 ((rd_T29 l1 x7_1).f0)) ∧ w20.cell? ⟨(ad232.add ((x7_1).toNat * 3)).block, (ad232.add ((x7_1).toNat * 3)).off + 1, none⟩ = some (.int .i64 ((rd_T29 l1 x7_1).f1)) ∧ w20.cell? ⟨(ad232.add ((x7_1).toNat * 3)).block, (ad232.add ((x7_1).toNat * 3)).off + 2, none⟩ = some (.slice A232_2 ((rd_T29 l1 x7_1).f2).length c232_2) ∧ w20.cell? (ad232.add ((x7_1).toNat * 3)) = some (.int .i64 ((rd_T29 l1 x7_1).f0)) ∧ w20.cell? ⟨(ad232.add ((x7_1).toNat * 3)).block, (ad232.add ((x7_1).toNat * 3)).off + 1, none⟩ = some (.int .i64 ((rd_T29 l1 x7_1).f1)) ∧ w20.cell? ⟨(ad232.add ((x7_1).toNat * 3)).block, (ad232.add ((x7_1).toNat * 3)).off + 2, none⟩ = some (.slice A232_2 ((rd_T29 l1 x7_1).f2).length c232_2) ∧ w20.cell? (ad232.add ((x7_1).toNat * 3)) = some (.int .i64 ((rd_T29 l1 x7_1).f0)) ∧ w20.cell? ⟨(ad232.add ((x7_1).toNat * 3)).block, (ad232.add ((x7_1).toNat * 3)).off + 1, none⟩ = some (.int .i64 ((rd_T29 l1 x7_1).f1)) ∧ w20.cell? ⟨(ad232.add ((x7_1).toNat * 3)).block, (ad232.add ((x7_1).toNat * 3)).off + 2, none⟩ = some (.slice A232_2 ((rd_T29 l1 x7_1).f2).length c232_2) ∧ w20.cell? (ad232.add ((x7_1).toNat * 3)) = some (.int .i64 ((rd_T29 l1 x7_1).f0)) ∧ w20.cell? ⟨(ad232.add ((x7_1).toNat * 3)).block, (ad232.add ((x7_1).toNat * 3)).off + 1, none⟩ = some (.int .i64 ((rd_T29 l1 x7_1).f1)) ∧ w20.cell? ⟨(ad232.add ((x7_1).toNat * 3)).block, (ad232.add ((x7_1).toNat * 3)).off + 2, none⟩ = some (.slice A232_2 ((rd_T29 l1 x7_1).f2).length c232_2) ∧ w20.cell? (ad232.add ((x7_1).toNat * 3)) = some (.int .i64 ((rd_T29 l1 x7_1).f0)) ∧ w20.cell? ⟨(ad232.add ((x7_1).toNat * 3)).block, (ad232.add ((x7_1).toNat * 3)).off + 1, none⟩ = some (.int .i64 ((rd_T29 l1 x7_1).f1)) ∧ w20.cell? ⟨(ad232.add ((x7_1).toNat * 3)).block, (ad232.add ((x7_1).toNat * 3)).off + 2, none⟩ = some (.slice A232_2 ((rd_T29 l1 x7_1).f2).length c232_2) := hS_
                        obtain ⟨Ao21, co21, eo21⟩ := Kd.R_slice HO243.out
                        (first | subst eo21 | (injection eo21 with f1_ f2_ f3_; have f4_ := f1_.symm; have f5_ := f3_.symm; clear f1_ f2_ f3_; subst f4_; subst f5_))
                        refine norm_ (a' := ?_) ?_ ?_
                        rotate_left
                        · simp only [putAll, Act.put, List.setIfInBounds_toArray, List.set_cons_zero, List.set_cons_succ]
                          rfl
                        refine one_ (i := 33) (N := none) #[true, true, true, true, true, true, true, true, true, true, true, true, true, true, true, true, true, true, true, true, true, true, true, true, true, true, true, true, true, true, true, true, true, true] rfl rfl (one_of HT_.out (by kernel_rfl)) (by decide) (fun K hK => ?_)
                        have hs22 : w20.cell? ⟨gb244, 0, none⟩ = some (.int .i64 0) := (blk_cell BK244.out 0).trans rfl
                        have hfs22 := blk_frozen BK244.out 0
                        have hs23 : w20.cell? ⟨gb244, 1, none⟩ = some (.int .i64 0) := (blk_cell BK244.out 1).trans rfl
                        have hfs23 := blk_frozen BK244.out 1
                        have hs24 : w20.cell? ⟨gb244, 2, none⟩ = some (.slice none 0 0) := (blk_cell BK244.out 2).trans rfl
                        have hfs24 := blk_frozen BK244.out 2
                        refine skip_ (w1 := ?_) (by rfl) rfl ?_ ?_
                        rotate_left
                        · go_simp
                          rfl
                        refine hK.out _ _ ⟨((cell_far (p := ⟨gb244, _, none⟩) (by first | exact Nat.ne_of_lt (Nat.lt_of_lt_of_le (by have := World.block_lt_of_cell? _ _ hw232_0; first | rwa [add_block] at this | exact this) GW244.out) | (rw [add_block]; exact Nat.ne_of_lt (Nat.lt_of_lt_of_le (by have := World.block_lt_of_cell? _ _ hw232_0; first | rwa [add_block] at this | exact this) GW244.out)) | (show (Addr.add _ _).block ≠ _; rw [add_block]; exact Nat.ne_of_lt (Nat.lt_of_lt_of_le (by have := World.block_lt_of_cell? _ _ hw232_0; first | rwa [add_block] at this | exact this) GW244.out)) | (dsimp only; exact Nat.ne_of_lt (Nat.lt_of_lt_of_le (by have := World.block_lt_of_cell? _ _ hw232_0; first | rwa [add_block] at this | exact this) GW244.out))) _).trans (((cell_far (p := ⟨gb244, _, none⟩) (by first | exact Nat.ne_of_lt (Nat.lt_of_lt_of_le (by have := World.block_lt_of_cell? _ _ hw232_0; first | rwa [add_block] at this | exact this) GW244.out) | (rw [add_block]; exact Nat.ne_of_lt (Nat.lt_of_lt_of_le (by have := World.block_lt_of_cell? _ _ hw232_0; first | rwa [add_block] at this | exact this) GW244.out)) | (show (Addr.add _ _).block ≠ _; rw [add_block]; exact Nat.ne_of_lt (Nat.lt_of_lt_of_le (by have := World.block_lt_of_cell? _ _ hw232_0; first | rwa [add_block] at this | exact this) GW244.out)) | (dsimp only; exact Nat.ne_of_lt (Nat.lt_of_lt_of_le (by have := World.block_lt_of_cell? _ _ hw232_0; first | rwa [add_block] at this | exact this) GW244.out))) _).trans (((cell_far (p := ⟨gb244, _, none⟩) (by first | exact Nat.ne_of_lt (Nat.lt_of_lt_of_le (by have := World.block_lt_of_cell? _ _ hw232_0; first | rwa [add_block] at this | exact this) GW244.out) | (rw [add_block]; exact Nat.ne_of_lt (Nat.lt_of_lt_of_le (by have := World.block_lt_of_cell? _ _ hw232_0; first | rwa [add_block] at this | exact this) GW244.out)) | (show (Addr.add _ _).block ≠ _; rw [add_block]; exact Nat.ne_of_lt (Nat.lt_of_lt_of_le (by have := World.block_lt_of_cell? _ _ hw232_0; first | rwa [add_block] at this | exact this) GW244.out)) | (dsimp only; exact Nat.ne_of_lt (Nat.lt_of_lt_of_le (by have := World.block_lt_of_cell? _ _ hw232_0; first | rwa [add_block] at this | exact this) GW244.out))) _).trans (hHeld.1)))))), ((cell_far (p := ⟨gb244, _, none⟩) (by first | exact Nat.ne_of_lt (Nat.lt_of_lt_of_le (by have := World.block_lt_of_cell? _ _ hw232_1; first | rwa [add_block] at this | exact this) GW244.out) | (rw [add_block]; exact Nat.ne_of_lt (Nat.lt_of_lt_of_le (by have := World.block_lt_of_cell? _ _ hw232_1; first | rwa [add_block] at this | exact this) GW244.out)) | (show (Addr.add _ _).block ≠ _; rw [add_block]; exact Nat.ne_of_lt (Nat.lt_of_lt_of_le (by have := World.block_lt_of_cell? _ _ hw232_1; first | rwa [add_block] at this | exact this) GW244.out)) | (dsimp only; exact Nat.ne_of_lt (Nat.lt_of_lt_of_le (by have := World.block_lt_of_cell? _ _ hw232_1; first | rwa [add_block] at this | exact this) GW244.out))) _).trans (((cell_far (p := ⟨gb244, _, none⟩) (by first | exact Nat.ne_of_lt (Nat.lt_of_lt_of_le (by have := World.block_lt_of_cell? _ _ hw232_1; first | rwa [add_block] at this | exact this) GW244.out) | (rw [add_block]; exact Nat.ne_of_lt (Nat.lt_of_lt_of_le (by have := World.block_lt_of_cell? _ _ hw232_1; first | rwa [add_block] at this | exact this) GW244.out)) | (show (Addr.add _ _).block ≠ _; rw [add_block]; exact Nat.ne_of_lt (Nat.lt_of_lt_of_le (by have := World.block_lt_of_cell? _ _ hw232_1; first | rwa [add_block] at this | exact this) GW244.out)) | (dsimp only; exact Nat.ne_of_lt (Nat.lt_of_lt_of_le (by have := World.block_lt_of_cell? _ _ hw232_1; first | rwa [add_block] at this | exact this) GW244.out))) _).trans (((cell_far (p := ⟨gb244, _, none⟩) (by first | exact Nat.ne_of_lt (Nat.lt_of_lt_of_le (by have := World.block_lt_of_cell? _ _ hw232_1; first | rwa [add_block] at this | exact this) GW244.out) | (rw [add_block]; exact Nat.ne_of_lt (Nat.lt_of_lt_of_le (by have := World.block_lt_of_cell? _ _ hw232_1; first | rwa [add_block] at this | exact this) GW244.out)) | (show (Addr.add _ _).block ≠ _; rw [add_block]; exact Nat.ne_of_lt (Nat.lt_of_lt_of_le (by have := World.block_lt_of_cell? _ _ hw232_1; first | rwa [add_block] at this | exact this) GW244.out)) | (dsimp only; exact Nat.ne_of_lt (Nat.lt_of_lt_of_le (by have := World.block_lt_of_cell? _ _ hw232_1; first | rwa [add_block] at this | exact this) GW244.out))) _).trans (hHeld.2.1)))))), ((cell_far (p := ⟨gb244, _, none⟩) (by first | exact Nat.ne_of_lt (Nat.lt_of_lt_of_le (by have := World.block_lt_of_cell? _ _ hw232_2; first | rwa [add_block] at this | exact this) GW244.out) | (rw [add_block]; exact Nat.ne_of_lt (Nat.lt_of_lt_of_le (by have := World.block_lt_of_cell? _ _ hw232_2; first | rwa [add_block] at this | exact this) GW244.out)) | (show (Addr.add _ _).block ≠ _; rw [add_block]; exact Nat.ne_of_lt (Nat.lt_of_lt_of_le (by have := World.block_lt_of_cell? _ _ hw232_2; first | rwa [add_block] at this | exact this) GW244.out)) | (dsimp only; exact Nat.ne_of_lt (Nat.lt_of_lt_of_le (by have := World.block_lt_of_cell? _ _ hw232_2; first | rwa [add_block] at this | exact this) GW244.out))) _).trans (((cell_far (p := ⟨gb244, _, none⟩) (by first | exact Nat.ne_of_lt (Nat.lt_of_lt_of_le (by have := World.block_lt_of_cell? _ _ hw232_2; first | rwa [add_block] at this | exact this) GW244.out) | (rw [add_block]; exact Nat.ne_of_lt (Nat.lt_of_lt_of_le (by have := World.block_lt_of_cell? _ _ hw232_2; first | rwa [add_block] at this | exact this) GW244.out)) | (show (Addr.add _ _).block ≠ _; rw [add_block]; exact Nat.ne_of_lt (Nat.lt_of_lt_of_le (by have := World.block_lt_of_cell? _ _ hw232_2; first | rwa [add_block] at this | exact this) GW244.out)) | (dsimp only; exact Nat.ne_of_lt (Nat.lt_of_lt_of_le (by have := World.block_lt_of_cell? _ _ hw232_2; first | rwa [add_block] at this | exact this) GW244.out))) _).trans (((cell_far (p := ⟨gb244, _, none⟩) (by first | exact Nat.ne_of_lt (Nat.lt_of_lt_of_le (by have := World.block_lt_of_cell? _ _ hw232_2; first | rwa [add_block] at this | exact this) GW244.out) | (rw [add_block]; exact Nat.ne_of_lt (Nat.lt_of_lt_of_le (by have := World.block_lt_of_cell? _ _ hw232_2; first | rwa [add_block] at this | exact this) GW244.out)) | (show (Addr.add _ _).block ≠ _; rw [add_block]; exact Nat.ne_of_lt (Nat.lt_of_lt_of_le (by have := World.block_lt_of_cell? _ _ hw232_2; first | rwa [add_block] at this | exact this) GW244.out)) | (dsimp only; exact Nat.ne_of_lt (Nat.lt_of_lt_of_le (by have := World.block_lt_of_cell? _ _ hw232_2; first | rwa [add_block] at this | exact this) GW244.out))) _).trans (hHeld.2.2.1)))))), ((cell_far (p := ⟨gb244, _, none⟩) (by first | exact Nat.ne_of_lt (Nat.lt_of_lt_of_le (by have := World.block_lt_of_cell? _ _ hw233_0; first | rwa [add_block] at this | exact this) GW244.out) | (rw [add_block]; exact Nat.ne_of_lt (Nat.lt_of_lt_of_le (by have := World.block_lt_of_cell? _ _ hw233_0; first | rwa [add_block] at this | exact this) GW244.out)) | (show (Addr.add _ _).block ≠ _; rw [add_block]; exact Nat.ne_of_lt (Nat.lt_of_lt_of_le (by have := World.block_lt_of_cell? _ _ hw233_0; first | rwa [add_block] at this | exact this) GW244.out)) | (dsimp only; exact Nat.ne_of_lt (Nat.lt_of_lt_of_le (by have := World.block_lt_of_cell? _ _ hw233_0; first | rwa [add_block] at this | exact this) GW244.out))) _).trans (((cell_far (p := ⟨gb244, _, none⟩) (by first | exact Nat.ne_of_lt (Nat.lt_of_lt_of_le (by have := World.block_lt_of_cell? _ _ hw233_0; first | rwa [add_block] at this | exact this) GW244.out) | (rw [add_block]; exact Nat.ne_of_lt (Nat.lt_of_lt_of_le (by have := World.block_lt_of_cell? _ _ hw233_0; first | rwa [add_block] at this | exact this) GW244.out)) | (show (Addr.add _ _).block ≠ _; rw [add_block]; exact Nat.ne_of_lt (Nat.lt_of_lt_of_le (by have := World.block_lt_of_cell? _ _ hw233_0; first | rwa [add_block] at this | exact this) GW244.out)) | (dsimp only; exact Nat.ne_of_lt (Nat.lt_of_lt_of_le (by have := World.block_lt_of_cell? _ _ hw233_0; first | rwa [add_block] at this | exact this) GW244.out))) _).trans (((cell_far (p := ⟨gb244, _, none⟩) (by first | exact Nat.ne_of_lt (Nat.lt_of_lt_of_le (by have := World.block_lt_of_cell? _ _ hw233_0; first | rwa [add_block] at this | exact this) GW244.out) | (rw [add_block]; exact Nat.ne_of_lt (Nat.lt_of_lt_of_le (by have := World.block_lt_of_cell? _ _ hw233_0; first | rwa [add_block] at this | exact this) GW244.out)) | (show (Addr.add _ _).block ≠ _; rw [add_block]; exact Nat.ne_of_lt (Nat.lt_of_lt_of_le (by have := World.block_lt_of_cell? _ _ hw233_0; first | rwa [add_block] at this | exact this) GW244.out)) | (dsimp only; exact Nat.ne_of_lt (Nat.lt_of_lt_of_le (by have := World.block_lt_of_cell? _ _ hw233_0; first | rwa [add_block] at this | exact this) GW244.out))) _).trans (hHeld.2.2.2.1)))))), ((cell_far (p := ⟨gb244, _, none⟩) (by first | exact Nat.ne_of_lt (Nat.lt_of_lt_of_le (by have := World.block_lt_of_cell? _ _ hw233_1; first | rwa [add_block] at this | exact this) GW244.out) | (rw [add_block]; exact Nat.ne_of_lt (Nat.lt_of_lt_of_le (by have := World.block_lt_of_cell? _ _ hw233_1; first | rwa [add_block] at this | exact this) GW244.out)) | (show (Addr.add _ _).block ≠ _; rw [add_block]; exact Nat.ne_of_lt (Nat.lt_of_lt_of_le (by have := World.block_lt_of_cell? _ _ hw233_1; first | rwa [add_block] at this | exact this) GW244.out)) | (dsimp only; exact Nat.ne_of_lt (Nat.lt_of_lt_of_le (by have := World.block_lt_of_cell? _ _ hw233_1; first | rwa [add_block] at this | exact this) GW244.out))) _).trans (((cell_far (p := ⟨gb244, _, none⟩) (by first | exact Nat.ne_of_lt (Nat.lt_of_lt_of_le (by have := World.block_lt_of_cell? _ _ hw233_1; first | rwa [add_block] at this | exact this) GW244.out) | (rw [add_block]; exact Nat.ne_of_lt (Nat.lt_of_lt_of_le (by have := World.block_lt_of_cell? _ _ hw233_1; first | rwa [add_block] at this | exact this) GW244.out)) | (show (Addr.add _ _).block ≠ _; rw [add_block]; exact Nat.ne_of_lt (Nat.lt_of_lt_of_le (by have := World.block_lt_of_cell? _ _ hw233_1; first | rwa [add_block] at this | exact this) GW244.out)) | (dsimp only; exact Nat.ne_of_lt (Nat.lt_of_lt_of_le (by have := World.block_lt_of_cell? _ _ hw233_1; first | rwa [add_block] at this | exact this) GW244.out))) _).trans (((cell_far (p := ⟨gb244, _, none⟩) (by first | exact Nat.ne_of_lt (Nat.lt_of_lt_of_le (by have := World.block_lt_of_cell? _ _ hw233_1; first | rwa [add_block] at this | exact this) GW244.out) | (rw [add_block]; exact Nat.ne_of_lt (Nat.lt_of_lt_of_le (by have := World.block_lt_of_cell? _ _ hw233_1; first | rwa [add_block] at this | exact this) GW244.out)) | (show (Addr.add _ _).block ≠ _; rw [add_block]; exact Nat.ne_of_lt (Nat.lt_of_lt_of_le (by have := World.block_lt_of_cell? _ _ hw233_1; first | rwa [add_block] at this | exact this) GW244.out)) | (dsimp only; exact Nat.ne_of_lt (Nat.lt_of_lt_of_le (by have := World.block_lt_of_cell? _ _ hw233_1; first | rwa [add_block] at this | exact this) GW244.out))) _).trans (hHeld.2.2.2.2.1)))))), ((cell_far (p := ⟨gb244, _, none⟩) (by first | exact Nat.ne_of_lt (Nat.lt_of_lt_of_le (by have := World.block_lt_of_cell? _ _ hw233_2; first | rwa [add_block] at this | exact this) GW244.out) | (rw [add_block]; exact Nat.ne_of_lt (Nat.lt_of_lt_of_le (by have := World.block_lt_of_cell? _ _ hw233_2; first | rwa [add_block] at this | exact this) GW244.out)) | (show (Addr.add _ _).block ≠ _; rw [add_block]; exact Nat.ne_of_lt (Nat.lt_of_lt_of_le (by have := World.block_lt_of_cell? _ _ hw233_2; first | rwa [add_block] at this | exact this) GW244.out)) | (dsimp only; exact Nat.ne_of_lt (Nat.lt_of_lt_of_le (by have := World.block_lt_of_cell? _ _ hw233_2; first | rwa [add_block] at this | exact this) GW244.out))) _).trans (((cell_far (p := ⟨gb244, _, none⟩) (by first | exact Nat.ne_of_lt (Nat.lt_of_lt_of_le (by have := World.block_lt_of_cell? _ _ hw233_2; first | rwa [add_block] at this | exact this) GW244.out) | (rw [add_block]; exact Nat.ne_of_lt (Nat.lt_of_lt_of_le (by have := World.block_lt_of_cell? _ _ hw233_2; first | rwa [add_block] at this | exact this) GW244.out)) | (show (Addr.add _ _).block ≠ _; rw [add_block]; exact Nat.ne_of_lt (Nat.lt_of_lt_of_le (by have := World.block_lt_of_cell? _ _ hw233_2; first | rwa [add_block] at this | exact this) GW244.out)) | (dsimp only; exact Nat.ne_of_lt (Nat.lt_of_lt_of_le (by have := World.block_lt_of_cell? _ _ hw233_2; first | rwa [add_block] at this | exact this) GW244.out))) _).trans (((cell_far (p := ⟨gb244, _, none⟩) (by first | exact Nat.ne_of_lt (Nat.lt_of_lt_of_le (by have := World.block_lt_of_cell? _ _ hw233_2; first | rwa [add_block] at this | exact this) GW244.out) | (rw [add_block]; exact Nat.ne_of_lt (Nat.lt_of_lt_of_le (by have := World.block_lt_of_cell? _ _ hw233_2; first | rwa [add_block] at this | exact this) GW244.out)) | (show (Addr.add _ _).block ≠ _; rw [add_block]; exact Nat.ne_of_lt (Nat.lt_of_lt_of_le (by have := World.block_lt_of_cell? _ _ hw233_2; first | rwa [add_block] at this | exact this) GW244.out)) | (dsimp only; exact Nat.ne_of_lt (Nat.lt_of_lt_of_le (by have := World.block_lt_of_cell? _ _ hw233_2; first | rwa [add_block] at this | exact this) GW244.out))) _).trans (hHeld.2.2.2.2.2.1)))))), ((cell_far (p := ⟨gb244, _, none⟩) (by first | exact Nat.ne_of_lt (Nat.lt_of_lt_of_le (by have := World.block_lt_of_cell? _ _ hw237_0; first | rwa [add_block] at this | exact this) GW244.out) | (rw [add_block]; exact Nat.ne_of_lt (Nat.lt_of_lt_of_le (by have := World.block_lt_of_cell? _ _ hw237_0; first | rwa [add_block] at this | exact this) GW244.out)) | (show (Addr.add _ _).block ≠ _; rw [add_block]; exact Nat.ne_of_lt (Nat.lt_of_lt_of_le (by have := World.block_lt_of_cell? _ _ hw237_0; first | rwa [add_block] at this | exact this) GW244.out)) | (dsimp only; exact Nat.ne_of_lt (Nat.lt_of_lt_of_le (by have := World.block_lt_of_cell? _ _ hw237_0; first | rwa [add_block] at this | exact this) GW244.out))) _).trans (((cell_far (p := ⟨gb244, _, none⟩) (by first | exact Nat.ne_of_lt (Nat.lt_of_lt_of_le (by have := World.block_lt_of_cell? _ _ hw237_0; first | rwa [add_block] at this | exact this) GW244.out) | (rw [add_block]; exact Nat.ne_of_lt (Nat.lt_of_lt_of_le (by have := World.block_lt_of_cell? _ _ hw237_0; first | rwa [add_block] at this | exact this) GW244.out)) | (show (Addr.add _ _).block ≠ _; rw [add_block]; exact Nat.ne_of_lt (Nat.lt_of_lt_of_le (by have := World.block_lt_of_cell? _ _ hw237_0; first | rwa [add_block] at this | exact this) GW244.out)) | (dsimp only; exact Nat.ne_of_lt (Nat.lt_of_lt_of_le (by have := World.block_lt_of_cell? _ _ hw237_0; first | rwa [add_block] at this | exact this) GW244.out))) _).trans (((cell_far (p := ⟨gb244, _, none⟩) (by first | exact Nat.ne_of_lt (Nat.lt_of_lt_of_le (by have := World.block_lt_of_cell? _ _ hw237_0; first | rwa [add_block] at this | exact this) GW244.out) | (rw [add_block]; exact Nat.ne_of_lt (Nat.lt_of_lt_of_le (by have := World.block_lt_of_cell? _ _ hw237_0; first | rwa [add_block] at this | exact this) GW244.out)) | (show (Addr.add _ _).block ≠ _; rw [add_block]; exact Nat.ne_of_lt (Nat.lt_of_lt_of_le (by have := World.block_lt_of_cell? _ _ hw237_0; first | rwa [add_block] at this | exact this) GW244.out)) | (dsimp only; exact Nat.ne_of_lt (Nat.lt_of_lt_of_le (by have := World.block_lt_of_cell? _ _ hw237_0; first | rwa [add_block] at this | exact this) GW244.out))) _).trans (hHeld.2.2.2.2.2.2.1)))))), ((cell_far (p := ⟨gb244, _, none⟩) (by first | exact Nat.ne_of_lt (Nat.lt_of_lt_of_le (by have := World.block_lt_of_cell? _ _ hw237_1; first | rwa [add_block] at this | exact this) GW244.out) | (rw [add_block]; exact Nat.ne_of_lt (Nat.lt_of_lt_of_le (by have := World.block_lt_of_cell? _ _ hw237_1; first | rwa [add_block] at this | exact this) GW244.out)) | (show (Addr.add _ _).block ≠ _; rw [add_block]; exact Nat.ne_of_lt (Nat.lt_of_lt_of_le (by have := World.block_lt_of_cell? _ _ hw237_1; first | rwa [add_block] at this | exact this) GW244.out)) | (dsimp only; exact Nat.ne_of_lt (Nat.lt_of_lt_of_le (by have := World.block_lt_of_cell? _ _ hw237_1; first | rwa [add_block] at this | exact this) GW244.out))) _).trans (((cell_far (p := ⟨gb244, _, none⟩) (by first | exact Nat.ne_of_lt (Nat.lt_of_lt_of_le (by have := World.block_lt_of_cell? _ _ hw237_1; first | rwa [add_block] at this | exact this) GW244.out) | (rw [add_block]; exact Nat.ne_of_lt (Nat.lt_of_lt_of_le (by have := World.block_lt_of_cell? _ _ hw237_1; first | rwa [add_block] at this | exact this) GW244.out)) | (show (Addr.add _ _).block ≠ _; rw [add_block]; exact Nat.ne_of_lt (Nat.lt_of_lt_of_le (by have := World.block_lt_of_cell? _ _ hw237_1; first | rwa [add_block] at this | exact this) GW244.out)) | (dsimp only; exact Nat.ne_of_lt (Nat.lt_of_lt_of_le (by have := World.block_lt_of_cell? _ _ hw237_1; first | rwa [add_block] at this | exact this) GW244.out))) _).trans (((cell_far (p := ⟨gb244, _, none⟩) (by first | exact Nat.ne_of_lt (Nat.lt_of_lt_of_le (by have := World.block_lt_of_cell? _ _ hw237_1; first | rwa [add_block] at this | exact this) GW244.out) | (rw [add_block]; exact Nat.ne_of_lt (Nat.lt_of_lt_of_le (by have := World.block_lt_of_cell? _ _ hw237_1; first | rwa [add_block] at this | exact this) GW244.out)) | (show (Addr.add _ _).block ≠ _; rw [add_block]; exact Nat.ne_of_lt (Nat.lt_of_lt_of_le (by have := World.block_lt_of_cell? _ _ hw237_1; first | rwa [add_block] at this | exact this) GW244.out)) | (dsimp only; exact Nat.ne_of_lt (Nat.lt_of_lt_of_le (by have := World.block_lt_of_cell? _ _ hw237_1; first | rwa [add_block] at this | exact this) GW244.out))) _).trans (hHeld.2.2.2.2.2.2.2.1)))))), ((cell_far (p := ⟨gb244, _, none⟩) (by first | exact Nat.ne_of_lt (Nat.lt_of_lt_of_le (by have := World.block_lt_of_cell? _ _ hw237_2; first | rwa [add_block] at this | exact this) GW244.out) | (rw [add_block]; exact Nat.ne_of_lt (Nat.lt_of_lt_of_le (by have := World.block_lt_of_cell? _ _ hw237_2; first | rwa [add_block] at this | exact this) GW244.out)) | (show (Addr.add _ _).block ≠ _; rw [add_block]; exact Nat.ne_of_lt (Nat.lt_of_lt_of_le (by have := World.block_lt_of_cell? _ _ hw237_2; first | rwa [add_block] at this | exact this) GW244.out)) | (dsimp only; exact Nat.ne_of_lt (Nat.lt_of_lt_of_le (by have := World.block_lt_of_cell? _ _ hw237_2; first | rwa [add_block] at this | exact this) GW244.out))) _).trans (((cell_far (p := ⟨gb244, _, none⟩) (by first | exact Nat.ne_of_lt (Nat.lt_of_lt_of_le (by have := World.block_lt_of_cell? _ _ hw237_2; first | rwa [add_block] at this | exact this) GW244.out) | (rw [add_block]; exact Nat.ne_of_lt (Nat.lt_of_lt_of_le (by have := World.block_lt_of_cell? _ _ hw237_2; first | rwa [add_block] at this | exact this) GW244.out)) | (show (Addr.add _ _).block ≠ _; rw [add_block]; exact Nat.ne_of_lt (Nat.lt_of_lt_of_le (by have := World.block_lt_of_cell? _ _ hw237_2; first | rwa [add_block] at this | exact this) GW244.out)) | (dsimp only; exact Nat.ne_of_lt (Nat.lt_of_lt_of_le (by have := World.block_lt_of_cell? _ _ hw237_2; first | rwa [add_block] at this | exact this) GW244.out))) _).trans (((cell_far (p := ⟨gb244, _, none⟩) (by first | exact Nat.ne_of_lt (Nat.lt_of_lt_of_le (by have := World.block_lt_of_cell? _ _ hw237_2; first | rwa [add_block] at this | exact this) GW244.out) | (rw [add_block]; exact Nat.ne_of_lt (Nat.lt_of_lt_of_le (by have := World.block_lt_of_cell? _ _ hw237_2; first | rwa [add_block] at this | exact this) GW244.out)) | (show (Addr.add _ _).block ≠ _; rw [add_block]; exact Nat.ne_of_lt (Nat.lt_of_lt_of_le (by have := World.block_lt_of_cell? _ _ hw237_2; first | rwa [add_block] at this | exact this) GW244.out)) | (dsimp only; exact Nat.ne_of_lt (Nat.lt_of_lt_of_le (by have := World.block_lt_of_cell? _ _ hw237_2; first | rwa [add_block] at this | exact this) GW244.out))) _).trans (hHeld.2.2.2.2.2.2.2.2.1)))))), ((cell_far (p := ⟨gb244, _, none⟩) (by first | exact Nat.ne_of_lt (Nat.lt_of_lt_of_le (by have := World.block_lt_of_cell? _ _ hw238_0; first | rwa [add_block] at this | exact this) GW244.out) | (rw [add_block]; exact Nat.ne_of_lt (Nat.lt_of_lt_of_le (by have := World.block_lt_of_cell? _ _ hw238_0; first | rwa [add_block] at this | exact this) GW244.out)) | (show (Addr.add _ _).block ≠ _; rw [add_block]; exact Nat.ne_of_lt (Nat.lt_of_lt_of_le (by have := World.block_lt_of_cell? _ _ hw238_0; first | rwa [add_block] at this | exact this) GW244.out)) | (dsimp only; exact Nat.ne_of_lt (Nat.lt_of_lt_of_le (by have := World.block_lt_of_cell? _ _ hw238_0; first | rwa [add_block] at this | exact this) GW244.out))) _).trans (((cell_far (p := ⟨gb244, _, none⟩) (by first | exact Nat.ne_of_lt (Nat.lt_of_lt_of_le (by have := World.block_lt_of_cell? _ _ hw238_0; first | rwa [add_block] at this | exact this) GW244.out) | (rw [add_block]; exact Nat.ne_of_lt (Nat.lt_of_lt_of_le (by have := World.block_lt_of_cell? _ _ hw238_0; first | rwa [add_block] at this | exact this) GW244.out)) | (show (Addr.add _ _).block ≠ _; rw [add_block]; exact Nat.ne_of_lt (Nat.lt_of_lt_of_le (by have := World.block_lt_of_cell? _ _ hw238_0; first | rwa [add_block] at this | exact this) GW244.out)) | (dsimp only; exact Nat.ne_of_lt (Nat.lt_of_lt_of_le (by have := World.block_lt_of_cell? _ _ hw238_0; first | rwa [add_block] at this | exact this) GW244.out))) _).trans (((cell_far (p := ⟨gb244, _, none⟩) (by first | exact Nat.ne_of_lt (Nat.lt_of_lt_of_le (by have := World.block_lt_of_cell? _ _ hw238_0; first | rwa [add_block] at this | exact this) GW244.out) | (rw [add_block]; exact Nat.ne_of_lt (Nat.lt_of_lt_of_le (by have := World.block_lt_of_cell? _ _ hw238_0; first | rwa [add_block] at this | exact this) GW244.out)) | (show (Addr.add _ _).block ≠ _; rw [add_block]; exact Nat.ne_of_lt (Nat.lt_of_lt_of_le (by have := World.block_lt_of_cell? _ _ hw238_0; first | rwa [add_block] at this | exact this) GW244.out)) | (dsimp only; exact Nat.ne_of_lt (Nat.lt_of_lt_of_le (by have := World.block_lt_of_cell? _ _ hw238_0; first | rwa [add_block] at this | exact this) GW244.out))) _).trans (hHeld.2.2.2.2.2.2.2.2.2.1)))))), ((cell_far (p := ⟨gb244, _, none⟩) (by first | exact Nat.ne_of_lt (Nat.lt_of_lt_of_le (by have := World.block_lt_of_cell? _ _ hw238_1; first | rwa [add_block] at this | exact this) GW244.out) | (rw [add_block]; exact Nat.ne_of_lt (Nat.lt_of_lt_of_le (by have := World.block_lt_of_cell? _ _ hw238_1; first | rwa [add_block] at this | exact this) GW244.out)) | (show (Addr.add _ _).block ≠ _; rw [add_block]; exact Nat.ne_of_lt (Nat.lt_of_lt_of_le (by have := World.block_lt_of_cell? _ _ hw238_1; first | rwa [add_block] at this | exact this) GW244.out)) | (dsimp only; exact Nat.ne_of_lt (Nat.lt_of_lt_of_le (by have := World.block_lt_of_cell? _ _ hw238_1; first | rwa [add_block] at this | exact this) GW244.out))) _).trans (((cell_far (p := ⟨gb244, _, none⟩) (by first | exact Nat.ne_of_lt (Nat.lt_of_lt_of_le (by have := World.block_lt_of_cell? _ _ hw238_1; first | rwa [add_block] at this | exact this) GW244.out) | (rw [add_block]; exact Nat.ne_of_lt (Nat.lt_of_lt_of_le (by have := World.block_lt_of_cell? _ _ hw238_1; first | rwa [add_block] at this | exact this) GW244.out)) | (show (Addr.add _ _).block ≠ _; rw [add_block]; exact Nat.ne_of_lt (Nat.lt_of_lt_of_le (by have := World.block_lt_of_cell? _ _ hw238_1; first | rwa [add_block] at this | exact this) GW244.out)) | (dsimp only; exact Nat.ne_of_lt (Nat.lt_of_lt_of_le (by have := World.block_lt_of_cell? _ _ hw238_1; first | rwa [add_block] at this | exact this) GW244.out))) _).trans (((cell_far (p := ⟨gb244, _, none⟩) (by first | exact Nat.ne_of_lt (Nat.lt_of_lt_of_le (by have := World.block_lt_of_cell? _ _ hw238_1; first | rwa [add_block] at this | exact this) GW244.out) | (rw [add_block]; exact Nat.ne_of_lt (Nat.lt_of_lt_of_le (by have := World.block_lt_of_cell? _ _ hw238_1; first | rwa [add_block] at this | exact this) GW244.out)) | (show (Addr.add _ _).block ≠ _; rw [add_block]; exact Nat.ne_of_lt (Nat.lt_of_lt_of_le (by have := World.block_lt_of_cell? _ _ hw238_1; first | rwa [add_block] at this | exact this) GW244.out)) | (dsimp only; exact Nat.ne_of_lt (Nat.lt_of_lt_of_le (by have := World.block_lt_of_cell? _ _ hw238_1; first | rwa [add_block] at this | exact this) GW244.out))) _).trans (hHeld.2.2.2.2.2.2.2.2.2.2.1)))))), ((cell_far (p := ⟨gb244, _, none⟩) (by first | exact Nat.ne_of_lt (Nat.lt_of_lt_of_le (by have := World.block_lt_of_cell? _ _ hw238_2; first | rwa [add_block] at this | exact this) GW244.out) | (rw [add_block]; exact Nat.ne_of_lt (Nat.lt_of_lt_of_le (by have := World.block_lt_of_cell? _ _ hw238_2; first | rwa [add_block] at this | exact this) GW244.out)) | (show (Addr.add _ _).block ≠ _; rw [add_block]; exact Nat.ne_of_lt (Nat.lt_of_lt_of_le (by have := World.block_lt_of_cell? _ _ hw238_2; first | rwa [add_block] at this | exact this) GW244.out)) | (dsimp only; exact Nat.ne_of_lt (Nat.lt_of_lt_of_le (by have := World.block_lt_of_cell? _ _ hw238_2; first | rwa [add_block] at this | exact this) GW244.out))) _).trans (((cell_far (p := ⟨gb244, _, none⟩) (by first | exact Nat.ne_of_lt (Nat.lt_of_lt_of_le (by have := World.block_lt_of_cell? _ _ hw238_2; first | rwa [add_block] at this | exact this) GW244.out) | (rw [add_block]; exact Nat.ne_of_lt (Nat.lt_of_lt_of_le (by have := World.block_lt_of_cell? _ _ hw238_2; first | rwa [add_block] at this | exact this) GW244.out)) | (show (Addr.add _ _).block ≠ _; rw [add_block]; exact Nat.ne_of_lt (Nat.lt_of_lt_of_le (by have := World.block_lt_of_cell? _ _ hw238_2; first | rwa [add_block] at this | exact this) GW244.out)) | (dsimp only; exact Nat.ne_of_lt (Nat.lt_of_lt_of_le (by have := World.block_lt_of_cell? _ _ hw238_2; first | rwa [add_block] at this | exact this) GW244.out))) _).trans (((cell_far (p := ⟨gb244, _, none⟩) (by first | exact Nat.ne_of_lt (Nat.lt_of_lt_of_le (by have := World.block_lt_of_cell? _ _ hw238_2; first | rwa [add_block] at this | exact this) GW244.out) | (rw [add_block]; exact Nat.ne_of_lt (Nat.lt_of_lt_of_le (by have := World.block_lt_of_cell? _ _ hw238_2; first | rwa [add_block] at this | exact this) GW244.out)) | (show (Addr.add _ _).block ≠ _; rw [add_block]; exact Nat.ne_of_lt (Nat.lt_of_lt_of_le (by have := World.block_lt_of_cell? _ _ hw238_2; first | rwa [add_block] at this | exact this) GW244.out)) | (dsimp only; exact Nat.ne_of_lt (Nat.lt_of_lt_of_le (by have := World.block_lt_of_cell? _ _ hw238_2; first | rwa [add_block] at this | exact this) GW244.out))) _).trans (hHeld.2.2.2.2.2.2.2.2.2.2.2.1)))))), ((cell_far (p := ⟨gb244, _, none⟩) (by first | exact Nat.ne_of_lt (Nat.lt_of_lt_of_le (by have := World.block_lt_of_cell? _ _ hw239_0; first | rwa [add_block] at this | exact this) GW244.out) | (rw [add_block]; exact Nat.ne_of_lt (Nat.lt_of_lt_of_le (by have := World.block_lt_of_cell? _ _ hw239_0; first | rwa [add_block] at this | exact this) GW244.out)) | (show (Addr.add _ _).block ≠ _; rw [add_block]; exact Nat.ne_of_lt (Nat.lt_of_lt_of_le (by have := World.block_lt_of_cell? _ _ hw239_0; first | rwa [add_block] at this | exact this) GW244.out)) | (dsimp only; exact Nat.ne_of_lt (Nat.lt_of_lt_of_le (by have := World.block_lt_of_cell? _ _ hw239_0; first | rwa [add_block] at this | exact this) GW244.out))) _).trans (((cell_far (p := ⟨gb244, _, none⟩) (by first | exact Nat.ne_of_lt (Nat.lt_of_lt_of_le (by have := World.block_lt_of_cell? _ _ hw239_0; first | rwa [add_block] at this | exact this) GW244.out) | (rw [add_block]; exact Nat.ne_of_lt (Nat.lt_of_lt_of_le (by have := World.block_lt_of_cell? _ _ hw239_0; first | rwa [add_block] at this | exact this) GW244.out)) | (show (Addr.add _ _).block ≠ _; rw [add_block]; exact Nat.ne_of_lt (Nat.lt_of_lt_of_le (by have := World.block_lt_of_cell? _ _ hw239_0; first | rwa [add_block] at this | exact this) GW244.out)) | (dsimp only; exact Nat.ne_of_lt (Nat.lt_of_lt_of_le (by have := World.block_lt_of_cell? _ _ hw239_0; first | rwa [add_block] at this | exact this) GW244.out))) _).trans (((cell_far (p := ⟨gb244, _, none⟩) (by first | exact Nat.ne_of_lt (Nat.lt_of_lt_of_le (by have := World.block_lt_of_cell? _ _ hw239_0; first | rwa [add_block] at this | exact this) GW244.out) | (rw [add_block]; exact Nat.ne_of_lt (Nat.lt_of_lt_of_le (by have := World.block_lt_of_cell? _ _ hw239_0; first | rwa [add_block] at this | exact this) GW244.out)) | (show (Addr.add _ _).block ≠ _; rw [add_block]; exact Nat.ne_of_lt (Nat.lt_of_lt_of_le (by have := World.block_lt_of_cell? _ _ hw239_0; first | rwa [add_block] at this | exact this) GW244.out)) | (dsimp only; exact Nat.ne_of_lt (Nat.lt_of_lt_of_le (by have := World.block_lt_of_cell? _ _ hw239_0; first | rwa [add_block] at this | exact this) GW244.out))) _).trans (hHeld.2.2.2.2.2.2.2.2.2.2.2.2.1)))))), ((cell_far (p := ⟨gb244, _, none⟩) (by first | exact Nat.ne_of_lt (Nat.lt_of_lt_of_le (by have := World.block_lt_of_cell? _ _ hw239_1; first | rwa [add_block] at this | exact this) GW244.out) | (rw [add_block]; exact Nat.ne_of_lt (Nat.lt_of_lt_of_le (by have := World.block_lt_of_cell? _ _ hw239_1; first | rwa [add_block] at this | exact this) GW244.out)) | (show (Addr.add _ _).block ≠ _; rw [add_block]; exact Nat.ne_of_lt (Nat.lt_of_lt_of_le (by have := World.block_lt_of_cell? _ _ hw239_1; first | rwa [add_block] at this | exact this) GW244.out)) | (dsimp only; exact Nat.ne_of_lt (Nat.lt_of_lt_of_le (by have := World.block_lt_of_cell? _ _ hw239_1; first | rwa [add_block] at this | exact this) GW244.out))) _).trans (((cell_far (p := ⟨gb244, _, none⟩) (by first | exact Nat.ne_of_lt (Nat.lt_of_lt_of_le (by have := World.block_lt_of_cell? _ _ hw239_1; first | rwa [add_block] at this | exact this) GW244.out) | (rw [add_block]; exact Nat.ne_of_lt (Nat.lt_of_lt_of_le (by have := World.block_lt_of_cell? _ _ hw239_1; first | rwa [add_block] at this | exact this) GW244.out)) | (show (Addr.add _ _).block ≠ _; rw [add_block]; exact Nat.ne_of_lt (Nat.lt_of_lt_of_le (by have := World.block_lt_of_cell? _ _ hw239_1; first | rwa [add_block] at this | exact this) GW244.out)) | (dsimp only; exact Nat.ne_of_lt (Nat.lt_of_lt_of_le (by have := World.block_lt_of_cell? _ _ hw239_1; first | rwa [add_block] at this | exact this) GW244.out))) _).trans (((cell_far (p := ⟨gb244, _, none⟩) (by first | exact Nat.ne_of_lt (Nat.lt_of_lt_of_le (by have := World.block_lt_of_cell? _ _ hw239_1; first | rwa [add_block] at this | exact this) GW244.out) | (rw [add_block]; exact Nat.ne_of_lt (Nat.lt_of_lt_of_le (by have := World.block_lt_of_cell? _ _ hw239_1; first | rwa [add_block] at this | exact this) GW244.out)) | (show (Addr.add _ _).block ≠ _; rw [add_block]; exact Nat.ne_of_lt (Nat.lt_of_lt_of_le (by have := World.block_lt_of_cell? _ _ hw239_1; first | rwa [add_block] at this | exact this) GW244.out)) | (dsimp only; exact Nat.ne_of_lt (Nat.lt_of_lt_of_le (by have := World.block_lt_of_cell? _ _ hw239_1; first | rwa [add_block] at this | exact this) GW244.out))) _).trans (hHeld.2.2.2.2.2.2.2.2.2.2.2.2.2.1)))))), ((cell_far (p := ⟨gb244, _, none⟩) (by first | exact Nat.ne_of_lt (Nat.lt_of_lt_of_le (by have := World.block_lt_of_cell? _ _ hw239_2; first | rwa [add_block] at this | exact this) GW244.out) | (rw [add_block]; exact Nat.ne_of_lt (Nat.lt_of_lt_of_le (by have := World.block_lt_of_cell? _ _ hw239_2; first | rwa [add_block] at this | exact this) GW244.out)) | (show (Addr.add _ _).block ≠ _; rw [add_block]; exact Nat.ne_of_lt (Nat.lt_of_lt_of_le (by have := World.block_lt_of_cell? _ _ hw239_2; first | rwa [add_block] at this | exact this) GW244.out)) | (dsimp only; exact Nat.ne_of_lt (Nat.lt_of_lt_of_le (by have := World.block_lt_of_cell? _ _ hw239_2; first | rwa [add_block] at this | exact this) GW244.out))) _).trans (((cell_far (p := ⟨gb244, _, none⟩) (by first | exact Nat.ne_of_lt (Nat.lt_of_lt_of_le (by have := World.block_lt_of_cell? _ _ hw239_2; first | rwa [add_block] at this | exact this) GW244.out) | (rw [add_block]; exact Nat.ne_of_lt (Nat.lt_of_lt_of_le (by have := World.block_lt_of_cell? _ _ hw239_2; first | rwa [add_block] at this | exact this) GW244.out)) | (show (Addr.add _ _).block ≠ _; rw [add_block]; exact Nat.ne_of_lt (Nat.lt_of_lt_of_le (by have := World.block_lt_of_cell? _ _ hw239_2; first | rwa [add_block] at this | exact this) GW244.out)) | (dsimp only; exact Nat.ne_of_lt (Nat.lt_of_lt_of_le (by have := World.block_lt_of_cell? _ _ hw239_2; first | rwa [add_block] at this | exact this) GW244.out))) _).trans (((cell_far (p := ⟨gb244, _, none⟩) (by first | exact Nat.ne_of_lt (Nat.lt_of_lt_of_le (by have := World.block_lt_of_cell? _ _ hw239_2; first | rwa [add_block] at this | exact this) GW244.out) | (rw [add_block]; exact Nat.ne_of_lt (Nat.lt_of_lt_of_le (by have := World.block_lt_of_cell? _ _ hw239_2; first | rwa [add_block] at this | exact this) GW244.out)) | (show (Addr.add _ _).block ≠ _; rw [add_block]; exact Nat.ne_of_lt (Nat.lt_of_lt_of_le (by have := World.block_lt_of_cell? _ _ hw239_2; first | rwa [add_block] at this | exact this) GW244.out)) | (dsimp only; exact Nat.ne_of_lt (Nat.lt_of_lt_of_le (by have := World.block_lt_of_cell? _ _ hw239_2; first | rwa [add_block] at this | exact this) GW244.out))) _).trans (hHeld.2.2.2.2.2.2.2.2.2.2.2.2.2.2))))))⟩ (fun hHeld => ?_)
                        clear hK K
                        refine done_ (done_of HT_.out (by kernel_rfl)) ?_
                        try go_wp2
                        go_loopg [9] kj3 (fun kq v9 w' => ∃ (x9_3 : Int) (x245000_3 : Int), v9 = .int .i64 x9_3 ∧ Aside0 (grapevineref04_Turn.l1 kq l0 l1 t231 x6_1 x7_1 x9_3 x245000_3 (((rd_T29 l1 x7_1).f2).length : Int) y241 = some r) ∧ Aside0 (kq ≤ kj3) ∧ Aside0 (Kd.S k29 29 w' w.heap.size (fun k_ => some k_ ≠ ((.slice Ao21 y241.length co21) : Value).ownBlock ∧ k_ ≠ gb244) u6 x6_1) ∧ Aside0 (Kd.R Kd.string 9 w' w.heap.size (fun _ => True) (.slice Ao21 y241.length co21) y241) ∧ Aside0 (w'.heap[gb244]? = some (.cells #[.int .i64 x245000_3, .int .i64 (((rd_T29 l1 x7_1).f2).length : Int), (.slice Ao21 y241.length co21)] 29 (0, 0))) ∧ Aside0 (Below w.heap.size w w'))
                        case atStart => exact ⟨(0), ((rd_T29 l1 x7_1).f0), (by first | rfl | (simp; done) | (simp [*]; done)), H', ⟨Nat.le_refl _⟩, ⟨by (with_reducible repeat (first | apply Kd.S_alloc | apply Kd.S_drewN | apply Kd.S_drew)); exact Kd.S_mono (Kd.S_far (p := ⟨gb244, 2, none⟩) (Kd.S_far (p := ⟨gb244, 1, none⟩) (Kd.S_far (p := ⟨gb244, 0, none⟩) (Kd.S_mono HO_6.out (fun k_ hk => (⟨hk, hk.2⟩ : _ ∧ k_ ≠ gb244))) (fun _ hk => hk.2) (.int .i64 ((rd_T29 l1 x7_1).f0))) (fun _ hk => hk.2) (.int .i64 (((rd_T29 l1 x7_1).f2).length : Int))) (fun _ hk => hk.2) (.slice Ao21 y241.length co21)) (fun _ hk => ⟨hk.1.1, hk.1.2⟩)⟩, ⟨by (with_reducible repeat (first | apply Kd.R_alloc | apply Kd.R_drewN | apply Kd.R_drew)); exact Kd.R_mono (Kd.R_far (p := ⟨gb244, 2, none⟩) (Kd.R_far (p := ⟨gb244, 1, none⟩) (Kd.R_far (p := ⟨gb244, 0, none⟩) (Kd.R_types HO243.out BK244.out (by decide)) (fun _ hk => hk.2) (.int .i64 ((rd_T29 l1 x7_1).f0))) (fun _ hk => hk.2) (.int .i64 (((rd_T29 l1 x7_1).f2).length : Int))) (fun _ hk => hk.2) (.slice Ao21 y241.length co21)) (fun _ hk => trivial)⟩, ⟨by (with_reducible repeat (first | refine blk_drewN ?_ _ | refine blk_drew ?_ | refine blk_alloc ?_ _)); refine blk_put (cs := #[.int .i64 ((rd_T29 l1 x7_1).f0), .int .i64 (((rd_T29 l1 x7_1).f2).length : Int), .slice none 0 0]) ?_ 2 _ rfl; (with_reducible repeat (first | refine blk_drewN ?_ _ | refine blk_drew ?_ | refine blk_alloc ?_ _)); refine blk_put (cs := #[.int .i64 ((rd_T29 l1 x7_1).f0), .int .i64 0, .slice none 0 0]) ?_ 1 _ rfl; (with_reducible repeat (first | refine blk_drewN ?_ _ | refine blk_drew ?_ | refine blk_alloc ?_ _)); refine blk_put (cs := #[.int .i64 0, .int .i64 0, .slice none 0 0]) ?_ 0 _ rfl; (with_reducible repeat (first | refine blk_drewN ?_ _ | refine blk_drew ?_ | refine blk_alloc ?_ _)); exact BK244.out⟩, ⟨by repeat (first | (with_reducible first | exact HB.out | apply below_alloc | apply pw_below_drewN | apply below_drew1 | refine below_set ?_ GE244.out) | exact HB.out)⟩⟩
                        case round =>
                          clear H'
                          try clear c1
                          try clear c2
                          try clear p2
                          try clear q2
                          try clear hx2
                          try clear p6
                          try clear c12
                          try clear c23
                          try clear p23
                          try clear q23
                          try clear hx23
                          try clear hx232_0
                          try clear hx232_1
                          try clear hx232_2
                          try clear hx233_0
                          try clear hx233_1
                          try clear hx233_2
                          try clear hx237_0
                          try clear hx237_1
                          try clear hx237_2
                          try clear hx238_0
                          try clear hx238_1
                          try clear hx238_2
                          try clear hx239_0
                          try clear hx239_1
                          try clear hx239_2
                          try clear p237
                          try clear p238
                          try clear p239
                          try clear q237
                          try clear q238
                          try clear q239
                          obtain ⟨x9_3, x245000_3, rfl, HA, HK3, HO_6, HO_245002, BK244, HB⟩ := hrel
                          cases gk with
                          | zero => exact absurd HA.out (by simp [grapevineref04_Turn.l1])
                          | succ k3 =>
                            have H := HA.out
                            clear HA
                            simp only [grapevineref04_Turn.l1] at H
                            by_cases c25 : x9_3 < x7_1
                            · rw [if_pos c25] at H
                              have c25b0 : decide (x9_3 < x7_1) = true := decide_eq_true c25
                              clear c25
                              by_cases c26 : 0 ≤ x9_3
                              · rw [if_pos c26] at H
                                have c26b0 : decide (0 ≤ x9_3) = true := decide_eq_true c26
                                clear c26
                                by_cases c27 : x9_3 < (l1.length : Int)
                                · rw [if_pos c27] at H
                                  have c27b0 : decide (x9_3 < (l1.length : Int)) = true := decide_eq_true c27
                                  clear c27
                                  have H' := Aside0.mk H
                                  clear H
                                  try go_wp2
                                  have n0_ := Aside0.mk (Kd.S_drew HO_6.out)
                                  have n1_ := Aside0.mk (Kd.R_drew HO_245002.out)
                                  have n2_ := Aside0.mk (blk_drew BK244.out)
                                  have n3_ := Aside0.mk (below_drew1 HB.out)
                                  clear HO_6
                                  clear HO_245002
                                  clear BK244
                                  clear HB
                                  have HO_6 := n0_
                                  have HO_245002 := n1_
                                  have BK244 := n2_
                                  have HB := n3_
                                  clear n0_ n1_ n2_ n3_
                                  have p245 : 0 ≤ (x9_3 : Int) := of_decide_eq_true (by first | (with_reducible assumption) | assumption)
                                  have q245 : x9_3 < (l1.length : Int) := of_decide_eq_true (by first | (with_reducible assumption) | assumption)
                                  obtain ⟨ad245, A245_2, c245_2, e245, hx245_0, hx245_1, hx245_2, hl245_2, hi245_2⟩ := at_T29 HR1.out x9_3 p245 q245
                                  have hw245_2 := hx245_2
                                  have hw245_1 := hx245_1
                                  have hw245_0 := hx245_0
                                  obtain rfl : ad232 = ad245 := (by injection e245)
                                  replace hx245_0 := (HB.out.cell (World.block_lt_of_cell? w _ hx245_0)).trans hx245_0
                                  replace hx245_1 := (HB.out.cell (World.block_lt_of_cell? w _ hx245_1)).trans hx245_1
                                  replace hx245_2 := (HB.out.cell (World.block_lt_of_cell? w _ hx245_2)).trans hx245_2
                                  have HR245_2 := Aside0.mk hi245_2
                                  have HC245_2 := Aside0.mk hl245_2
                                  clear hi245_2 hl245_2
                                  replace p245 := eq_true p245
                                  replace q245 := eq_true q245
                                  have p246 : 0 ≤ (x9_3 : Int) := of_decide_eq_true (by first | (with_reducible assumption) | assumption)
                                  have q246 : x9_3 < (l1.length : Int) := of_decide_eq_true (by first | (with_reducible assumption) | assumption)
                                  obtain ⟨ad246, A246_2, c246_2, e246, hx246_0, hx246_1, hx246_2, hl246_2, hi246_2⟩ := at_T29 HR1.out x9_3 p246 q246
                                  have hw246_2 := hx246_2
                                  have hw246_1 := hx246_1
                                  have hw246_0 := hx246_0
                                  obtain rfl : ad232 = ad246 := (by injection e246)
                                  replace hx246_0 := (HB.out.cell (World.block_lt_of_cell? w _ hx246_0)).trans hx246_0
                                  replace hx246_1 := (HB.out.cell (World.block_lt_of_cell? w _ hx246_1)).trans hx246_1
                                  replace hx246_2 := (HB.out.cell (World.block_lt_of_cell? w _ hx246_2)).trans hx246_2
                                  have HR246_2 := Aside0.mk hi246_2
                                  have HC246_2 := Aside0.mk hl246_2
                                  clear hi246_2 hl246_2
                                  replace p246 := eq_true p246
                                  replace q246 := eq_true q246
                                  have ea_ := Option.some.inj (hx245_2.symm.trans hx246_2)
                                  injection ea_ with ea_ en_ ec_
                                  subst ea_
                                  subst ec_
                                  clear en_
                                  refine start_ (n := 17) (S := fun w' => w'.cell? ⟨gb244, 0, none⟩ = some (.int .i64 x245000_3) ∧ w'.cell? ⟨gb244, 1, none⟩ = some (.int .i64 (((rd_T29 l1 x7_1).f2).length : Int)) ∧ w'.cell? ⟨gb244, 2, none⟩ = some (.slice Ao21 y241.length co21) ∧ w'.cell? (ad232.add ((x9_3).toNat * 3)) = some (.int .i64 ((rd_T29 l1 x9_3).f0)) ∧ w'.cell? ⟨(ad232.add ((x9_3).toNat * 3)).block, (ad232.add ((x9_3).toNat * 3)).off + 1, none⟩ = some (.int .i64 ((rd_T29 l1 x9_3).f1)) ∧ w'.cell? ⟨(ad232.add ((x9_3).toNat * 3)).block, (ad232.add ((x9_3).toNat * 3)).off + 2, none⟩ = some (.slice A245_2 ((rd_T29 l1 x9_3).f2).length c245_2) ∧ w'.cell? (ad232.add ((x9_3).toNat * 3)) = some (.int .i64 ((rd_T29 l1 x9_3).f0)) ∧ w'.cell? ⟨(ad232.add ((x9_3).toNat * 3)).block, (ad232.add ((x9_3).toNat * 3)).off + 1, none⟩ = some (.int .i64 ((rd_T29 l1 x9_3).f1)) ∧ w'.cell? ⟨(ad232.add ((x9_3).toNat * 3)).block, (ad232.add ((x9_3).toNat * 3)).off + 2, none⟩ = some (.slice A245_2 ((rd_T29 l1 x9_3).f2).length c245_2)) (ds := [16]) #[false, false, false, false, false, false, false, false, false, false, false, false, false, false, false, false, false] (by kernel_rfl) rfl rfl ⟨(blk_cell BK244.out 0).trans rfl, (blk_cell BK244.out 1).trans rfl, (blk_cell BK244.out 2).trans rfl, ((HB.out.cell (World.block_lt_of_cell? w _ hw245_0)).trans hw245_0), ((HB.out.cell (World.block_lt_of_cell? w _ hw245_1)).trans hw245_1), ((HB.out.cell (World.block_lt_of_cell? w _ hw245_2)).trans hw245_2), ((HB.out.cell (World.block_lt_of_cell? w _ hw246_0)).trans hw246_0), ((HB.out.cell (World.block_lt_of_cell? w _ hw246_1)).trans hw246_1), ((HB.out.cell (World.block_lt_of_cell? w _ hw246_2)).trans hw246_2)⟩ (fun hHeld => ?_); refine with_tabW grapevineref04_Turn.tab10 grapevineref04_Turn.bits10 (fun HT_ HW_ => ?_)
                                  generalize wr.drew = w28 at HO_6 HO_245002 BK244 HB HR245_2 HR246_2 hx245_0 hx245_1 hx245_2 hx246_0 hx246_1 hx246_2 hHeld ⊢
                                  refine pure_ (i := 0) (N := some 60) (v := ?_) (a' := ?_) #[true, false, false, false, false, false, false, false, false, false, false, false, false, false, false, false, false] rfl rfl (any_of HT_.out (by kernel_rfl)) (fun _ _ _ h => h) (Or.inl ⟨by rfl, ?_⟩) ?_ ?_
                                  rotate_left
                                  · intro w'
                                    go_simp
                                    with_reducible rfl
                                  rotate_left
                                  · simp only [Act.put, List.setIfInBounds_toArray, List.set_cons_zero, List.set_cons_succ, i64_w, i32_w]
                                    rfl
                                  refine pure_ (i := 2) (N := some 62) (v := ?_) (a' := ?_) #[true, false, true, false, false, false, false, false, false, false, false, false, false, false, false, false, false] rfl rfl (any_of HT_.out (by kernel_rfl)) (fun _ _ _ h => h) (Or.inl ⟨by rfl, ?_⟩) ?_ ?_
                                  rotate_left
                                  · intro w'
                                    go_simp
                                    with_reducible rfl
                                  rotate_left
                                  · simp only [Act.put, List.setIfInBounds_toArray, List.set_cons_zero, List.set_cons_succ, i64_w, i32_w]
                                    rfl
                                  refine pure_ (i := 3) (N := some 63) (v := ?_) (a' := ?_) #[true, false, true, true, false, false, false, false, false, false, false, false, false, false, false, false, false] rfl rfl (any_of HT_.out (by kernel_rfl)) (fun _ _ _ h => h) (Or.inl ⟨by rfl, ?_⟩) ?_ ?_
                                  rotate_left
                                  · intro w'
                                    go_simp
                                    with_reducible rfl
                                  rotate_left
                                  · simp only [Act.put, List.setIfInBounds_toArray, List.set_cons_zero, List.set_cons_succ, i64_w, i32_w]
                                    rfl
                                  refine pure_ (i := 4) (N := some 64) (v := ?_) (a' := ?_) #[true, false, true, true, true, false, false, false, false, false, false, false, false, false, false, false, false] rfl rfl (any_of HT_.out (by kernel_rfl)) (fun _ _ _ h => h) (Or.inl ⟨by rfl, ?_⟩) ?_ ?_
                                  rotate_left
                                  · intro w'
                                    go_simp
                                    with_reducible rfl
                                  rotate_left
                                  · simp only [Act.put, List.setIfInBounds_toArray, List.set_cons_zero, List.set_cons_succ, i64_w, i32_w]
                                    rfl
                                  refine pure_ (i := 5) (N := some 65) (v := ?_) (a' := ?_) #[true, false, true, true, true, true, false, false, false, false, false, false, false, false, false, false, false] rfl rfl (any_of HT_.out (by kernel_rfl)) (fun _ _ _ h => h) (Or.inl ⟨by rfl, ?_⟩) ?_ ?_
                                  rotate_left
                                  · intro w'
                                    go_simp
                                    with_reducible rfl
                                  rotate_left
                                  · simp only [Act.put, List.setIfInBounds_toArray, List.set_cons_zero, List.set_cons_succ, i64_w, i32_w]
                                    rfl
                                  refine pure_ (i := 9) (N := some 69) (v := ?_) (a' := ?_) #[true, false, true, true, true, true, false, false, false, true, false, false, false, false, false, false, false] rfl rfl (any_of HT_.out (by kernel_rfl)) (fun _ _ _ h => h) (Or.inl ⟨by rfl, ?_⟩) ?_ ?_
                                  rotate_left
                                  · intro w'
                                    go_simp
                                    with_reducible rfl
                                  rotate_left
                                  · simp only [Act.put, List.setIfInBounds_toArray, List.set_cons_zero, List.set_cons_succ, i64_w, i32_w]
                                    rfl
                                  refine pure_ (i := 10) (N := some 70) (v := ?_) (a' := ?_) #[true, false, true, true, true, true, false, false, false, true, true, false, false, false, false, false, false] rfl rfl (any_of HT_.out (by kernel_rfl)) (fun _ _ _ h => h) (Or.inl ⟨by rfl, ?_⟩) ?_ ?_
                                  rotate_left
                                  · intro w'
                                    go_simp
                                    with_reducible rfl
                                  rotate_left
                                  · simp only [Act.put, List.setIfInBounds_toArray, List.set_cons_zero, List.set_cons_succ, i64_w, i32_w]
                                    rfl
                                  refine pure_ (i := 11) (N := some 71) (v := ?_) (a' := ?_) #[true, false, true, true, true, true, false, false, false, true, true, true, false, false, false, false, false] rfl rfl (any_of HT_.out (by kernel_rfl)) (fun _ _ _ h => h) (Or.inl ⟨by rfl, ?_⟩) ?_ ?_
                                  rotate_left
                                  · intro w'
                                    go_simp
                                    with_reducible rfl
                                  rotate_left
                                  · simp only [Act.put, List.setIfInBounds_toArray, List.set_cons_zero, List.set_cons_succ, i64_w, i32_w]
                                    rfl
                                  refine pure_ (i := 12) (N := some 72) (v := ?_) (a' := ?_) #[true, false, true, true, true, true, false, false, false, true, true, true, true, false, false, false, false] rfl rfl (any_of HT_.out (by kernel_rfl)) (fun _ _ _ h => h) (Or.inl ⟨by rfl, ?_⟩) ?_ ?_
                                  rotate_left
                                  · intro w'
                                    go_simp
                                    with_reducible rfl
                                  rotate_left
                                  · simp only [Act.put, List.setIfInBounds_toArray, List.set_cons_zero, List.set_cons_succ, i64_w, i32_w]
                                    rfl
                                  refine take_ (i := 1) (N := some 61) (v := ?_) (a' := ?_) #[true, true, true, true, true, true, false, false, false, true, true, true, true, false, false, false, false] rfl rfl (take_ofW HT_.out HW_.out (by kernel_rfl)) (fun _ _ _ h => h) (Or.inl ⟨by rfl, ?_⟩) hHeld ?_ ?_
                                  rotate_left
                                  · rintro w' ⟨s0, s1, s2, s3, s4, s5, s6, s7, s8⟩
                                    go_simp
                                    with_reducible rfl
                                  rotate_left
                                  · simp only [Act.put, List.setIfInBounds_toArray, List.set_cons_zero, List.set_cons_succ, i64_w, i32_w]
                                    rfl
                                  refine take_ (i := 6) (N := some 66) (v := ?_) (a' := ?_) #[true, true, true, true, true, true, true, false, false, true, true, true, true, false, false, false, false] rfl rfl (take_ofW HT_.out HW_.out (by kernel_rfl)) (fun _ _ _ h => h) (Or.inl ⟨by rfl, ?_⟩) hHeld ?_ ?_
                                  rotate_left
                                  · rintro w' ⟨s0, s1, s2, s3, s4, s5, s6, s7, s8⟩
                                    go_simp
                                    with_reducible rfl
                                  rotate_left
                                  · simp only [Act.put, List.setIfInBounds_toArray, List.set_cons_zero, List.set_cons_succ, i64_w, i32_w]
                                    rfl
                                  refine pure_ (i := 7) (N := some 67) (v := ?_) (a' := ?_) #[true, true, true, true, true, true, true, true, false, true, true, true, true, false, false, false, false] rfl rfl (any_of HT_.out (by kernel_rfl)) (fun _ _ _ h => h) (Or.inl ⟨by rfl, ?_⟩) ?_ ?_
                                  rotate_left
                                  · intro w'
                                    go_simp
                                    with_reducible rfl
                                  rotate_left
                                  · simp only [Act.put, List.setIfInBounds_toArray, List.set_cons_zero, List.set_cons_succ, i64_w, i32_w]
                                    rfl
                                  refine pure_ (i := 8) (N := some 68) (v := ?_) (a' := ?_) #[true, true, true, true, true, true, true, true, true, true, true, true, true, false, false, false, false] rfl rfl (any_of HT_.out (by kernel_rfl)) (fun _ _ _ h => h) (Or.inl ⟨by rfl, ?_⟩) ?_ ?_
                                  rotate_left
                                  · intro w'
                                    go_simp
                                    with_reducible rfl
                                  rotate_left
                                  · simp only [Act.put, List.setIfInBounds_toArray, List.set_cons_zero, List.set_cons_succ, i64_w, i32_w]
                                    rfl
                                  refine take_ (i := 13) (N := some 73) (v := ?_) (a' := ?_) #[true, true, true, true, true, true, true, true, true, true, true, true, true, true, false, false, false] rfl rfl (take_ofW HT_.out HW_.out (by kernel_rfl)) (fun _ _ _ h => h) (Or.inl ⟨by rfl, ?_⟩) hHeld ?_ ?_
                                  rotate_left
                                  · rintro w' ⟨s0, s1, s2, s3, s4, s5, s6, s7, s8⟩
                                    go_simp
                                    with_reducible rfl
                                  rotate_left
                                  · simp only [Act.put, List.setIfInBounds_toArray, List.set_cons_zero, List.set_cons_succ, i64_w, i32_w]
                                    rfl
                                  refine pure_ (i := 14) (N := some 74) (v := ?_) (a' := ?_) #[true, true, true, true, true, true, true, true, true, true, true, true, true, true, true, false, false] rfl rfl (any_of HT_.out (by kernel_rfl)) (fun _ _ _ h => h) (Or.inl ⟨by rfl, ?_⟩) ?_ ?_
                                  rotate_left
                                  · intro w'
                                    go_simp
                                    with_reducible rfl
                                  rotate_left
                                  · simp only [Act.put, List.setIfInBounds_toArray, List.set_cons_zero, List.set_cons_succ, i64_w, i32_w]
                                    rfl
                                  refine pure_ (i := 15) (N := some 75) (v := ?_) (a' := ?_) #[true, true, true, true, true, true, true, true, true, true, true, true, true, true, true, true, false] rfl rfl (any_of HT_.out (by kernel_rfl)) (fun _ _ _ h => h) (Or.inl ⟨by rfl, ?_⟩) ?_ ?_
                                  rotate_left
                                  · intro w'
                                    go_simp
                                    with_reducible rfl
                                  rotate_left
                                  · simp only [Act.put, List.setIfInBounds_toArray, List.set_cons_zero, List.set_cons_succ, i64_w, i32_w]
                                    rfl
                                  refine last_ (i := 16) (N := none) #[true, true, true, true, true, true, true, true, true, true, true, true, true, true, true, true, true] rfl rfl (one_of HT_.out (by kernel_rfl)) (by decide) (fun K hK => ?_)
                                  have hs29 : w28.cell? ⟨gb244, 0, none⟩ = some (.int .i64 x245000_3) := (blk_cell BK244.out 0).trans rfl
                                  have hfs29 := blk_frozen BK244.out 0
                                  refine skip_ (w1 := ?_) (by rfl) rfl ?_ ?_
                                  rotate_left
                                  · go_simp
                                    rfl
                                  refine hK.out _ _ ?_
                                  clear hK K
                                  refine done_ (done_of HT_.out (by kernel_rfl)) ?_
                                  try go_wp2
                                  go_roundg k3
                                  case measure => have := HK1.out; have := HJ3.out; have := HK3.out; omega
                                  case rel => exact ⟨(wrap64 (x9_3 + 1)), (wrap64 ((wrap64 (x245000_3 + (((rd_T29 l1 x9_3).f2).length : Int))) - ((rd_T29 l1 x9_3).f1))), (by first | rfl | (simp; done) | (simp [*]; done)), H', ⟨by have := HK1.out; have := HJ3.out; have := HK3.out; omega⟩, ⟨by (with_reducible repeat (first | apply Kd.S_alloc | apply Kd.S_drewN | apply Kd.S_drew)); exact Kd.S_mono (Kd.S_far (p := ⟨gb244, 0, none⟩) (Kd.S_mono HO_6.out (fun k_ hk => (⟨hk, hk.2⟩ : _ ∧ k_ ≠ gb244))) (fun _ hk => hk.2) (.int .i64 (wrap64 ((wrap64 (x245000_3 + (((rd_T29 l1 x9_3).f2).length : Int))) - ((rd_T29 l1 x9_3).f1))))) (fun _ hk => ⟨hk.1.1, hk.1.2⟩)⟩, ⟨by (with_reducible repeat (first | apply Kd.R_alloc | apply Kd.R_drewN | apply Kd.R_drew)); exact Kd.R_mono (Kd.R_far (p := ⟨gb244, 0, none⟩) (Kd.R_types HO_245002.out BK244.out (by decide)) (fun _ hk => hk.2) (.int .i64 (wrap64 ((wrap64 (x245000_3 + (((rd_T29 l1 x9_3).f2).length : Int))) - ((rd_T29 l1 x9_3).f1))))) (fun _ hk => trivial)⟩, ⟨by (with_reducible repeat (first | refine blk_drewN ?_ _ | refine blk_drew ?_ | refine blk_alloc ?_ _)); refine blk_put (cs := #[.int .i64 x245000_3, .int .i64 (((rd_T29 l1 x7_1).f2).length : Int), .slice Ao21 y241.length co21]) ?_ 0 _ rfl; (with_reducible repeat (first | refine blk_drewN ?_ _ | refine blk_drew ?_ | refine blk_alloc ?_ _)); exact BK244.out⟩, ⟨by repeat (first | (with_reducible first | exact HB.out | apply below_alloc | apply pw_below_drewN | apply below_drew1 | refine below_set ?_ GE244.out) | exact HB.out)⟩⟩
                                · rw [if_neg c27] at H
                                  exact absurd H (by simp)
                              · rw [if_neg c26] at H
                                exact absurd H (by simp)
                            · rw [if_neg c25] at H
                              have c25b0 : decide (x9_3 < x7_1) = false := decide_eq_false c25
                              clear c25
                              by_cases c30 : x6_1.length < 3518437208883
                              · rw [if_pos c30] at H
                                have LMc30 := Aside0.mk c30
                                clear c30
                                obtain ⟨y247, hy247⟩ : ∃ y_ : List (S29), y_ = (x6_1 ++ [(⟨x245000_3, (((rd_T29 l1 x7_1).f2).length : Int), y241⟩ : S29)]) := ⟨_, rfl⟩
                                replace H : (grapevineref04_Turn.l0 k3 l0 l1 t231 y247 (wrap64 (x7_1 + 1))) = some r := by first | (rw [hy247]; with_reducible exact H) | (have H2_ := (Option.bind_some _ _).symm.trans H; rw [hy247]; with_reducible exact H2_) | (have H2_ := (Option.bind_some _ _).symm.trans H; with_reducible exact H2_) | with_reducible exact H | (rw [hy247]; exact H) | exact H
                                have Ny247 := Aside0.mk hy247
                                clear hy247
                                have H' := Aside0.mk H
                                clear H
                                have hcz31_0 : wr.cell? ⟨gb244, 0, none⟩ = some (.int .i64 x245000_3) := (blk_cell BK244.out 0).trans rfl
                                have hcz31_1 : wr.cell? ⟨gb244, 1, none⟩ = some (.int .i64 (((rd_T29 l1 x7_1).f2).length : Int)) := (blk_cell BK244.out 1).trans rfl
                                have hcz31_2 : wr.cell? ⟨gb244, 2, none⟩ = some (.slice Ao21 y241.length co21) := (blk_cell BK244.out 2).trans rfl
                                have hfz31_0 := blk_frozen BK244.out 0
                                have hfz31_1 := blk_frozen BK244.out 1
                                have hfz31_2 := blk_frozen BK244.out 2
                                go_wp2_with (first | ((with_reducible refine gate_builtin (b := .append) (xs := #[.tmp 76, .tmp 78]) rfl ?_); at_builtin; refine Kd.S_append k29 (w0 := w) w.heap.size rfl (.tmp 76) (.tmp 78) 25 29 (.agg #[(.int .i64 0), (.int .i64 0), (.slice none 0 0)]) 40 rfl Try.underlying25 info29 rfl (by decide) (by omega) u6 x6_1 (⟨x245000_3, (((rd_T29 l1 x7_1).f2).length : Int), y241⟩ : S29) [.int .i64 x245000_3, .int .i64 (((rd_T29 l1 x7_1).f2).length : Int), .slice Ao21 y241.length co21] (fun k_ => k_ ≠ gb244) (fun k_ => some k_ = (.slice Ao21 y241.length co21 : Value).ownBlock) rfl rfl ?aP (fun k_ hk_ => ((Kd.R_mono (ok' := fun k_ => ((fun k_ => k_ ≠ gb244)) k_ ∧ some k_ ≠ (u6 : Value).ownBlock) (Kd.R_types (Kd.R_apart' (HO_245002.out) (Kd.S_typed HO_6.out) (by decide)) BK244.out (by decide)) (fun k_ hk => ⟨hk.2, hk.1.2⟩))).1 k_ hk_.symm) ?aF ?aO ?aB ?aS ?aL ?_; (case aP => exact k29_mkM _ _ _ (⟨x245000_3, (((rd_T29 l1 x7_1).f2).length : Int), y241⟩ : S29) (Kd.R_mono (Kd.R_tight rfl (Kd.R_mono (ok' := fun k_ => ((fun k_ => k_ ≠ gb244)) k_ ∧ some k_ ≠ (u6 : Value).ownBlock) (Kd.R_types (Kd.R_apart' (HO_245002.out) (Kd.S_typed HO_6.out) (by decide)) BK244.out (by decide)) (fun k_ hk => ⟨hk.2, hk.1.2⟩))) (fun _ h_ => h_))); (case aB => exact (by repeat (first | (with_reducible first | exact HB.out | apply below_alloc | apply pw_below_drewN | apply below_drew1 | refine below_set ?_ GE244.out) | exact HB.out))); (case aF => exact (fun k_ hk => Kd.freshB (g := gb244) (o := .cells #[.int .i64 x245000_3, .int .i64 (((rd_T29 l1 x7_1).f2).length : Int), .slice Ao21 y241.length co21] 29 (0, 0)) (by (with_reducible repeat (first | refine blk_drewN ?_ _ | refine blk_drew ?_ | refine blk_alloc ?_ _)); exact BK244.out) k_ hk)); (case aO => exact (by (with_reducible repeat (first | apply Kd.S_alloc | apply Kd.S_drewN | apply Kd.S_drew)); exact Kd.S_mono HO_6.out (fun k_ hk => ⟨hk.2, fun e_ => hk.1 e_⟩))); (case aS => exact (below_size (by repeat (first | (with_reducible first | exact HB.out | apply below_alloc | apply pw_below_drewN | apply below_drew1 | refine below_set ?_ GE244.out) | exact HB.out)))); (case aL => have := LMc30.out; omega); intro v248 w32 ho hb hg hat; rw [← Ny247.out] at ho; have n0_ := Aside0.mk (blk_grown (g := gb244) (o := .cells #[.int .i64 x245000_3, .int .i64 (((rd_T29 l1 x7_1).f2).length : Int), .slice Ao21 y241.length co21] 29 (0, 0)) (by (with_reducible repeat (first | refine blk_drewN ?_ _ | refine blk_drew ?_ | refine blk_alloc ?_ _)); exact BK244.out) hg (Kd.S_away HO_6.out (fun _ hk => hk.2))); have n1_ := Aside0.mk (hb); have n2_ := Aside0.mk (ho); clear BK244; clear HB; clear HO_6; clear HO_245002; have BK244 := n0_; have HB := n1_; have HO249 := n2_; clear n0_ n1_ n2_; clear ho hb hg hat))
                                go_roundg k3
                                case measure => have := HK1.out; have := HJ3.out; have := HK3.out; omega
                                case rel => exact ⟨(y247), (wrap64 (x7_1 + 1)), (by first | rfl | (simp; done) | (simp [*]; done)), H', ⟨by have := HK1.out; have := HJ3.out; have := HK3.out; omega⟩, ⟨by (with_reducible repeat (first | apply Kd.S_alloc | apply Kd.S_drewN | apply Kd.S_drew)); exact Kd.S_mono HO249.out (fun _ hk => trivial)⟩, ⟨by repeat (first | (with_reducible first | exact HB.out | apply below_alloc | apply pw_below_drewN | apply below_drew1 | refine below_set ?_ GE244.out) | exact HB.out)⟩⟩
                              · rw [if_neg c30] at H
                                exact absurd H (by simp)
                      · rw [if_neg c12] at H
                        exact absurd H (by simp)
                    · rw [if_neg c11] at H
                      exact absurd H (by simp)
                  · rw [if_neg c10] at H
                    exact absurd H (by simp)
                · rw [if_neg c9] at H
                  exact absurd H (by simp)
              · rw [if_neg c8] at H
                exact absurd H (by simp)
            · rw [if_neg c7] at H
              exact absurd H (by simp)
          · replace c6 := Bool.eq_false_iff.mpr c6
            subst c6
            have H1 : (some x6_1) = some r := by rw [if_neg (show ¬ (false = true) by decide)] at H; exact H
            clear H
            have H := H1
            clear H1
            obtain rfl := Option.some.inj H
            go_wp2
            go_ret
            exact ⟨_, by first | rfl | (simp [errW_none, errW_some] <;> rfl) | (simp [*, errW_none, errW_some] <;> rfl), by (with_reducible repeat (first | apply Kd.S_alloc | apply Kd.S_drewN | apply Kd.S_drew)); exact HO_6.out, by repeat (first | (with_reducible first | exact HB.out | apply below_alloc | apply pw_below_drewN | apply below_drew1) | exact HB.out)⟩

end Go.Proofs.Ytebfopcihjadpaa.Pr
