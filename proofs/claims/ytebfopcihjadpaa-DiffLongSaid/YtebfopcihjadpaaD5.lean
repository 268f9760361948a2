-- written by a program of this session's (a turned copy of the kit's printer); Lean checks it
import Derived.Test.YtebfopcihjadpaaD0
import Derived.Test.YtebfopcihjadpaaGAwake
import Derived.Test.YtebfopcihjadpaaGDiff
import Derived.Test.YtebfopcihjadpaaD1a
namespace Go.Proofs.Ytebfopcihjadpaa.Pr
open Go.RowKit Go.Proofs.YtebfopcihjadpaaW.PrintWords Go.Proofs.YtebfopcihjadpaaW.PrintLast Go.Proofs.YtebfopcihjadpaaW.PrintMore
attribute [local go_sem] max2_int min2_int max_two min_two max_three min_three max_four min_four   -- for this text's walks alone
set_option linter.unusedVariables false
set_option linter.unusedSimpArgs false

/-! ### grapevinelaw04_DiffLong: function 4 -/
mutual
def grapevinelaw04_DiffLong.l0 : Nat → ByteArray → ByteArray → Int → Bool → List ByteArray → List ByteArray → Int → Int → Option (Bool)
  | 0, _, _, _, _, _, _, _, _ => none
  | k + 1, x0, x1, x3, x9, x10, x11, x12, x13 => if x13 < (wrap64 ((wrap64 (300 + x12)) + (wrap64 (Int.tmod x3 11)))) then (if x13 < x12 then (grapevinelaw04_DiffLong.j1 k x0 x1 x3 x9 x10 x11 x12 x13 x1 true) else (grapevinelaw04_DiffLong.j1 k x0 x1 x3 x9 x10 x11 x12 x13 x1 (decide (x13 ≥ (wrap64 (x12 + 300)))))) else (if x0.size + x1.size ≤ 9223372036854775807 then (if (x0 ++ x1).size + 1 ≤ 9223372036854775807 then (if x0.toList = ((x0 ++ x1) ++ (⟨#[61]⟩ : ByteArray)).toList then (grapevinelaw04_DiffLong.j2 k x9 x10 x11 x12 true) else (grapevinelaw04_DiffLong.j2 k x9 x10 x11 x12 (x1.toList == ((x0 ++ x1) ++ (⟨#[61]⟩ : ByteArray)).toList))) else (none)) else (none))
def grapevinelaw04_DiffLong.j1 : Nat → ByteArray → ByteArray → Int → Bool → List ByteArray → List ByteArray → Int → Int → ByteArray → Bool → Option (Bool)
  | 0, _, _, _, _, _, _, _, _, _, _ => none
  | k + 1, x0, x1, x3, x9, x10, x11, x12, x13, x14, x43 => if x43 = true then (if x0.size + x1.size ≤ 9223372036854775807 then (if (x0 ++ x1).size + 1 ≤ 9223372036854775807 then (if x11.length < 8796093022208 then ((some (x11 ++ [(x0 ++ x1) ++ (⟨#[61]⟩ : ByteArray)] : List ByteArray)).bind fun y165 => (if x13 < x12 then (if x10.length < 8796093022208 then (grapevinelaw04_DiffLong.l0 k x0 x1 x3 x9 (x10 ++ [(x0 ++ x1) ++ (⟨#[61]⟩ : ByteArray)]) y165 x12 (wrap64 (x13 + 1))) else (none)) else (if x13 ≥ (wrap64 (x12 + 300)) then (if x10.length < 8796093022208 then (grapevinelaw04_DiffLong.l0 k x0 x1 x3 x9 (x10 ++ [(x0 ++ x1) ++ (⟨#[61]⟩ : ByteArray)]) y165 x12 (wrap64 (x13 + 1))) else (none)) else (if x10.length < 8796093022208 then (grapevinelaw04_DiffLong.l0 k x0 x1 x3 x9 (x10 ++ [x0]) y165 x12 (wrap64 (x13 + 1))) else (none))))) else (none)) else (none)) else (none)) else (if x11.length < 8796093022208 then ((some (x11 ++ [x14] : List ByteArray)).bind fun y177 => (if x13 < x12 then (if x10.length < 8796093022208 then (grapevinelaw04_DiffLong.l0 k x0 x1 x3 x9 (x10 ++ [x14]) y177 x12 (wrap64 (x13 + 1))) else (none)) else (if x13 ≥ (wrap64 (x12 + 300)) then (if x10.length < 8796093022208 then (grapevinelaw04_DiffLong.l0 k x0 x1 x3 x9 (x10 ++ [x14]) y177 x12 (wrap64 (x13 + 1))) else (none)) else (if x10.length < 8796093022208 then (grapevinelaw04_DiffLong.l0 k x0 x1 x3 x9 (x10 ++ [x0]) y177 x12 (wrap64 (x13 + 1))) else (none))))) else (none))
def grapevinelaw04_DiffLong.j2 : Nat → Bool → List ByteArray → List ByteArray → Int → Bool → Option (Bool)
  | 0, _, _, _, _, _ => none
  | k + 1, x9, x10, x11, x12, x82 => if x82 = true then (some x9) else ((diff_Diff.f x10 x11).bind fun t189 => (if x9 = true then (if (t189.length : Int) = 1 then (if 0 < (t189.length : Int) then (if ((rd_T29 t189 0).f0) = x12 then (if ((rd_T29 t189 0).f1) = 300 then (if 0 ≤ x12 then (if x12 ≤ (wrap64 (x12 + 300)) then (if (wrap64 (x12 + 300)) ≤ (x11.length : Int) then ((grapevineref01_Texts.f k ((rd_T29 t189 0).f2) ((x11.take ((wrap64 (x12 + 300)) : Int).toNat).drop (x12 : Int).toNat)).bind fun t199 => (some t199)) else (none)) else (none)) else (none)) else (some false)) else (some false)) else (none)) else (some false)) else (some false)))
end
def grapevinelaw04_DiffLong.f (k : Nat) (a0 : ByteArray) (a1 : ByteArray) (a2 : Int) (a3 : Int) : Option (Bool) := (grapevinelaw04_awake.f).bind fun t164 => (if a0.toList = a1.toList then (some t164) else (grapevinelaw04_DiffLong.l0 k a0 a1 a3 t164 ([] : List ByteArray) ([] : List ByteArray) (wrap64 (Int.tmod a2 11)) 0))
theorem grapevinelaw04_DiffLong.mono_l : ∀ k, (∀ y0 y1 y2 y3 y4 y5 y6 y7, LeO (grapevinelaw04_DiffLong.l0 k y0 y1 y2 y3 y4 y5 y6 y7) (grapevinelaw04_DiffLong.l0 (k + 1) y0 y1 y2 y3 y4 y5 y6 y7)) ∧ (∀ y0 y1 y2 y3 y4 y5 y6 y7 y8 y9, LeO (grapevinelaw04_DiffLong.j1 k y0 y1 y2 y3 y4 y5 y6 y7 y8 y9) (grapevinelaw04_DiffLong.j1 (k + 1) y0 y1 y2 y3 y4 y5 y6 y7 y8 y9)) ∧ (∀ y0 y1 y2 y3 y4, LeO (grapevinelaw04_DiffLong.j2 k y0 y1 y2 y3 y4) (grapevinelaw04_DiffLong.j2 (k + 1) y0 y1 y2 y3 y4))
  | 0 => ⟨fun _ _ _ _ _ _ _ _ r h => by simp [grapevinelaw04_DiffLong.l0] at h, fun _ _ _ _ _ _ _ _ _ _ r h => by simp [grapevinelaw04_DiffLong.j1] at h, fun _ _ _ _ _ r h => by simp [grapevinelaw04_DiffLong.j2] at h⟩
  | k + 1 => by
    obtain ⟨ih0, ih1, ih2⟩ := grapevinelaw04_DiffLong.mono_l k
    refine ⟨?_, ?_, ?_⟩
    · intro y0 y1 y2 y3 y4 y5 y6 y7
      unfold grapevinelaw04_DiffLong.l0
      repeat' first
      | (with_reducible exact ih0 _ _ _ _ _ _ _ _)
      | (with_reducible exact ih1 _ _ _ _ _ _ _ _ _ _)
      | (with_reducible exact ih2 _ _ _ _ _)
      | (with_reducible exact grapevineref01_Texts.mono _ _ _)
      | (with_reducible exact LeO.refl _)
      | (with_reducible exact LeO.none _)
      | (with_reducible refine LeO.ite ?_ ?_)
      | (with_reducible refine LeO.bind ?_ (fun _ => ?_))
      | exact ih0 _ _ _ _ _ _ _ _
      | exact ih1 _ _ _ _ _ _ _ _ _ _
      | exact ih2 _ _ _ _ _
      | exact grapevineref01_Texts.mono _ _ _
      | exact LeO.none _
      | refine LeO.ite ?_ ?_
      | refine LeO.bind ?_ (fun _ => ?_)
    · intro y0 y1 y2 y3 y4 y5 y6 y7 y8 y9
      unfold grapevinelaw04_DiffLong.j1
      repeat' first
      | (with_reducible exact ih0 _ _ _ _ _ _ _ _)
      | (with_reducible exact ih1 _ _ _ _ _ _ _ _ _ _)
      | (with_reducible exact ih2 _ _ _ _ _)
      | (with_reducible exact grapevineref01_Texts.mono _ _ _)
      | (with_reducible exact LeO.refl _)
      | (with_reducible exact LeO.none _)
      | (with_reducible refine LeO.ite ?_ ?_)
      | (with_reducible refine LeO.bind ?_ (fun _ => ?_))
      | exact ih0 _ _ _ _ _ _ _ _
      | exact ih1 _ _ _ _ _ _ _ _ _ _
      | exact ih2 _ _ _ _ _
      | exact grapevineref01_Texts.mono _ _ _
      | exact LeO.none _
      | refine LeO.ite ?_ ?_
      | refine LeO.bind ?_ (fun _ => ?_)
    · intro y0 y1 y2 y3 y4
      unfold grapevinelaw04_DiffLong.j2
      repeat' first
      | (with_reducible exact ih0 _ _ _ _ _ _ _ _)
      | (with_reducible exact ih1 _ _ _ _ _ _ _ _ _ _)
      | (with_reducible exact ih2 _ _ _ _ _)
      | (with_reducible exact grapevineref01_Texts.mono _ _ _)
      | (with_reducible exact LeO.refl _)
      | (with_reducible exact LeO.none _)
      | (with_reducible refine LeO.ite ?_ ?_)
      | (with_reducible refine LeO.bind ?_ (fun _ => ?_))
      | exact ih0 _ _ _ _ _ _ _ _
      | exact ih1 _ _ _ _ _ _ _ _ _ _
      | exact ih2 _ _ _ _ _
      | exact grapevineref01_Texts.mono _ _ _
      | exact LeO.none _
      | refine LeO.ite ?_ ?_
      | refine LeO.bind ?_ (fun _ => ?_)
theorem grapevinelaw04_DiffLong.mono : ∀ a0 a1 a2 a3 k, LeO (grapevinelaw04_DiffLong.f k a0 a1 a2 a3) (grapevinelaw04_DiffLong.f (k + 1) a0 a1 a2 a3) := by
  intro a0 a1 a2 a3 k
  obtain ⟨ih0, ih1, ih2⟩ := grapevinelaw04_DiffLong.mono_l k
  unfold grapevinelaw04_DiffLong.f
  repeat' first
      | (with_reducible exact ih0 _ _ _ _ _ _ _ _)
      | (with_reducible exact ih1 _ _ _ _ _ _ _ _ _ _)
      | (with_reducible exact ih2 _ _ _ _ _)
      | (with_reducible exact grapevineref01_Texts.mono _ _ _)
      | (with_reducible exact LeO.refl _)
      | (with_reducible exact LeO.none _)
      | (with_reducible refine LeO.ite ?_ ?_)
      | (with_reducible refine LeO.bind ?_ (fun _ => ?_))
      | exact ih0 _ _ _ _ _ _ _ _
      | exact ih1 _ _ _ _ _ _ _ _ _ _
      | exact ih2 _ _ _ _ _
      | exact grapevineref01_Texts.mono _ _ _
      | exact LeO.none _
      | refine LeO.ite ?_ ?_
      | refine LeO.bind ?_ (fun _ => ?_)
def grapevinelaw04_DiffLong.T19 : Bool × List (List Nat × List Nat) := (true, [([], []), ([0], [0]), ([1], [1]), ([2, 1], [1, 2]), ([3, 1], [1, 3]), ([1, 4], [1, 4]), ([5, 1], [5]), ([6], [6]), ([7, 6], [6, 7]), ([8, 6], [6, 8]), ([9, 6], [6, 9]), ([6], [6]), ([10, 11, 6], [6, 10, 11]), ([6, 12], [6, 12]), ([13, 6], [13]), ([14], [14]), ([15, 14], [14, 15]), ([16, 14], [14, 16]), ([17, 14], [14, 17]), ([18, 14], [14, 18]), ([14, 19], [14, 19]), ([20, 14], [20]), ([21], [21]), ([22, 21], [21, 22]), ([23, 21], [21, 23]), ([24, 21], [21, 24]), ([21], [21]), ([21], [21]), ([21], [21]), ([28, 21], [21, 28]), ([26, 27, 29, 21], [21, 26, 27, 29]), ([25, 30, 21, 21], [21, 25, 30]), ([21, 31], [21, 31]), ([32, 31, 0, 1, 2, 3, 4, 5, 6, 7, 8, 9, 10, 11, 12, 13, 14, 15, 16, 17, 18, 19, 20, 21, 22, 23, 24, 25, 26, 27, 28, 29, 30, 31, 32], [32])])
def grapevinelaw04_DiffLong.B19 : List Nat := [0, 1, 3, 7, 15, 31, 63, 127, 255, 511, 1023, 127, 4095, 8191, 16383, 32767, 65535, 131071, 262143, 524287, 1048575, 2097151, 4194303, 8388607, 16777215, 33554431, 4194303, 4194303, 4194303, 272629759, 1010827263, 2147483647, 4294967295, 8589934591]
theorem grapevinelaw04_DiffLong.tab19 : rtab .any (opsOf Try.f4 19) = grapevinelaw04_DiffLong.T19 := by kernel_rfl
theorem grapevinelaw04_DiffLong.bits19 : waitsOk grapevinelaw04_DiffLong.T19.2 grapevinelaw04_DiffLong.B19 = true := by kernel_rfl
set_option maxHeartbeats 8000000 in
set_option maxRecDepth 100000 in
theorem grapevinelaw04_DiffLong.calls (k : Nat) (a0 : ByteArray) (a1 : ByteArray) (a2 : Int) (a3 : Int) (r : Bool) (w : World) (hrt_ : Aside0 (r = true)) (h : grapevinelaw04_DiffLong.f k a0 a1 a2 a3 = some r) :
    Calls Try.prog 4 #[.string a0, .string a1, .int .u8 a2, .int .u8 a3] w fun e w' => e = .returned (.bool r) ∧ Below w.heap.size w w' := by
  have HB := Aside0.mk (Below.refl w.heap.size w)
  have H : ((grapevinelaw04_awake.f).bind fun t164 => (if a0.toList = a1.toList then (some t164) else (grapevinelaw04_DiffLong.l0 k a0 a1 a3 t164 ([] : List ByteArray) ([] : List ByteArray) (wrap64 (Int.tmod a2 11)) 0))) = some r := h
  clear h
  replace H := Option.bind_eq_some_iff.mp H
  obtain ⟨t164, A50, H⟩ := H
  replace H : (if a0.toList = a1.toList then (some t164) else (grapevinelaw04_DiffLong.l0 k a0 a1 a3 t164 ([] : List ByteArray) ([] : List ByteArray) (wrap64 (Int.tmod a2 11)) 0)) = some r := H
  have A5 := Aside0.mk A50
  clear A50
  by_cases c6 : a0.toList = a1.toList
  · rw [if_pos c6] at H
    have c6b0 : (a0.toList == a1.toList) = true := beq_iff_eq.mpr c6
    have c6b1 : (a0.toList != a1.toList) = false := bne_eq_false_iff_eq.mpr c6
    clear c6
    obtain rfl := Option.some.inj H
    go_enter Try.func4, Try.ntmps4
    go_wp2_with (first | ((with_reducible refine gate_callee (f := 13) rfl ?_); refine goesL_ (some 16) rfl rfl Try.func13 (by kernel_rfl) rfl #[] rfl (by (try simp only [List.map_toArray, List.map_cons, List.map_nil]); first | done | rfl | (simp only [List.length_drop, List.length_take]; rfl)) ?_; (with_reducible refine (grapevinelaw04_awake.calls  t164 _ A5.out).mono ?_); rintro e w7 ⟨rfl, hb⟩; refine ⟨_, rfl, ?_⟩; have n0_ := Aside0.mk (below_step (by repeat (first | (with_reducible first | exact HB.out | apply below_alloc | apply pw_below_drewN | apply below_drew1) | exact HB.out)) hb); clear HB; have HB := n0_; clear n0_; (try clear hb); (try clear hb2); (try clear hk); (try clear hi)))
    go_ret
    exact ⟨by first | rfl | (simp [errW_none, errW_some] <;> rfl) | (simp [*, errW_none, errW_some] <;> rfl), by repeat (first | (with_reducible first | exact HB.out | apply below_alloc | apply pw_below_drewN | apply below_drew1) | exact HB.out)⟩
  · rw [if_neg c6] at H
    have c6b0 : (a0.toList == a1.toList) = false := beq_eq_false_iff_ne.mpr c6
    have c6b1 : (a0.toList != a1.toList) = true := bne_iff_ne.mpr c6
    have H' := Aside0.mk H
    clear H
    go_enter Try.func4, Try.ntmps4
    go_wp2_with (first | ((with_reducible refine gate_callee (f := 13) rfl ?_); refine goesL_ (some 16) rfl rfl Try.func13 (by kernel_rfl) rfl #[] rfl (by (try simp only [List.map_toArray, List.map_cons, List.map_nil]); first | done | rfl | (simp only [List.length_drop, List.length_take]; rfl)) ?_; (with_reducible refine (grapevinelaw04_awake.calls  t164 _ A5.out).mono ?_); rintro e w8 ⟨rfl, hb⟩; refine ⟨_, rfl, ?_⟩; have n0_ := Aside0.mk (below_step (by repeat (first | (with_reducible first | exact HB.out | apply below_alloc | apply pw_below_drewN | apply below_drew1) | exact HB.out)) hb); clear HB; have HB := n0_; clear n0_; (try clear hb); (try clear hb2); (try clear hk); (try clear hi)))
    go_loopg [10, 11, 13] k (fun kq v10 v11 v13 w' => ∃ (x10_1 : List ByteArray) (x11_1 : List ByteArray) (x13_1 : Int), v13 = .int .i64 x13_1 ∧ Aside0 (grapevinelaw04_DiffLong.l0 kq a0 a1 a3 t164 x10_1 x11_1 (wrap64 (Int.tmod a2 11)) x13_1 = some r) ∧ Aside0 (kq ≤ k) ∧ Aside0 (Kd.R Kd.string 9 w' w.heap.size (fun k_ => some k_ ≠ (v11 : Value).ownBlock) v10 x10_1) ∧ Aside0 (Kd.R Kd.string 9 w' w.heap.size (fun k_ => some k_ ≠ (v10 : Value).ownBlock) v11 x11_1) ∧ Aside0 (Below w.heap.size w w'))
    case atStart => exact ⟨(([] : List ByteArray)), (([] : List ByteArray)), (0), (by first | rfl | (simp; done) | (simp [*]; done)), H', ⟨Nat.le_refl _⟩, ⟨by first | exact Kd.R_nil _ _ _ _ _ | exact Kd.N_nil _ _ _ _ _ | exact Kd.V_nil _ _ _ _ _ | exact Kd.Q_nil _ _ _ _ _ | exact Kd.S_nil _ _ _ _ _⟩, ⟨by first | exact Kd.R_nil _ _ _ _ _ | exact Kd.N_nil _ _ _ _ _ | exact Kd.V_nil _ _ _ _ _ | exact Kd.Q_nil _ _ _ _ _ | exact Kd.S_nil _ _ _ _ _⟩, ⟨by repeat (first | (with_reducible first | exact HB.out | apply below_alloc | apply pw_below_drewN | apply below_drew1) | exact HB.out)⟩⟩
    case round =>
      clear H'
      try clear c1
      try clear p2
      try clear c4
      try clear c6
      try clear c6b0
      try clear c6b1
      try clear p6
      obtain ⟨x10_1, x11_1, x13_1, rfl, HA, HK1, HO_10, HO_11, HB⟩ := hrel
      cases gk with
      | zero => exact absurd HA.out (by simp [grapevinelaw04_DiffLong.l0])
      | succ k1 =>
        have H := HA.out
        clear HA
        simp only [grapevinelaw04_DiffLong.l0] at H
        by_cases c9 : x13_1 < (wrap64 ((wrap64 (300 + (wrap64 (Int.tmod a2 11)))) + (wrap64 (Int.tmod a3 11))))
        · rw [if_pos c9] at H
          have c9b0 : decide (x13_1 < (wrap64 ((wrap64 (300 + (wrap64 (Int.tmod a2 11)))) + (wrap64 (Int.tmod a3 11))))) = true := decide_eq_true c9
          clear c9
          have HC10 := Aside0.mk H
          clear H
          go_upto_region 10 with (fail)
          go_cut [43] (fun v43 wc => ∃ (kq : Nat) (x43_9 : Bool), v43 = .bool x43_9 ∧ Aside0 (grapevinelaw04_DiffLong.j1 kq a0 a1 a3 t164 x10_1 x11_1 (wrap64 (Int.tmod a2 11)) x13_1 a1 x43_9 = some r) ∧ Aside0 (kq ≤ k1) ∧ Aside0 (Kd.R Kd.string 9 wc w.heap.size (fun k_ => some k_ ≠ (u11 : Value).ownBlock) u10 x10_1) ∧ Aside0 (Kd.R Kd.string 9 wc w.heap.size (fun k_ => some k_ ≠ (u10 : Value).ownBlock) u11 x11_1) ∧ Aside0 (Below w.heap.size w wc))
          case first =>
            have H := HC10.out
            clear HC10
            by_cases c11 : x13_1 < (wrap64 (Int.tmod a2 11))
            · rw [if_pos c11] at H
              have c11b0 : decide (x13_1 < (wrap64 (Int.tmod a2 11))) = true := decide_eq_true c11
              clear c11
              (first | rw [c11b0] | (simp only [i64_w, i32_w]; rw [c11b0]) | skip)
              have H' := Aside0.mk H
              clear H
              go_wp2
              go_meet
              case rel => exact ⟨_, (true), (by first | rfl | (simp; done) | (simp [*]; done)), H', ⟨by have := HK1.out; first | omega | exact Nat.le_refl _⟩, ⟨by (with_reducible repeat (first | apply Kd.R_alloc | apply Kd.R_drewN | apply Kd.R_drew)); exact HO_10.out⟩, ⟨by (with_reducible repeat (first | apply Kd.R_alloc | apply Kd.R_drewN | apply Kd.R_drew)); exact HO_11.out⟩, ⟨by repeat (first | (with_reducible first | exact HB.out | apply below_alloc | apply pw_below_drewN | apply below_drew1) | exact HB.out)⟩⟩
            · rw [if_neg c11] at H
              have c11b0 : decide (x13_1 < (wrap64 (Int.tmod a2 11))) = false := decide_eq_false c11
              clear c11
              (first | rw [c11b0] | (simp only [i64_w, i32_w]; rw [c11b0]) | skip)
              have H' := Aside0.mk H
              clear H
              go_wp2
              go_meet
              case rel => exact ⟨_, (decide (x13_1 ≥ (wrap64 ((wrap64 (Int.tmod a2 11)) + 300)))), (by first | rfl | (simp; done) | (simp [*]; done)), H', ⟨by have := HK1.out; first | omega | exact Nat.le_refl _⟩, ⟨by (with_reducible repeat (first | apply Kd.R_alloc | apply Kd.R_drewN | apply Kd.R_drew)); exact HO_10.out⟩, ⟨by (with_reducible repeat (first | apply Kd.R_alloc | apply Kd.R_drewN | apply Kd.R_drew)); exact HO_11.out⟩, ⟨by repeat (first | (with_reducible first | exact HB.out | apply below_alloc | apply pw_below_drewN | apply below_drew1) | exact HB.out)⟩⟩
          case rest =>
            clear HC10
            try clear c1
            try clear p2
            try clear c4
            try clear c6
            try clear c6b0
            try clear c6b1
            try clear p6
            try clear c9
            try clear c9b0
            try clear c11
            try clear c11b0
            try clear p2
            try clear p6
            obtain ⟨kq, x43_9, rfl, HA, HJ9, HO_10, HO_11, HB⟩ := hcut
            cases kq with
            | zero => exact absurd HA.out (by simp [grapevinelaw04_DiffLong.j1])
            | succ kj9 =>
              have H := HA.out
              clear HA
              simp only [grapevinelaw04_DiffLong.j1] at H
              by_cases c12 : x43_9 = true
              · subst c12
                have H1 : (if a0.size + a1.size ≤ 9223372036854775807 then (if (a0 ++ a1).size + 1 ≤ 9223372036854775807 then (if x11_1.length < 8796093022208 then ((some (x11_1 ++ [(a0 ++ a1) ++ (⟨#[61]⟩ : ByteArray)] : List ByteArray)).bind fun y165 => (if x13_1 < (wrap64 (Int.tmod a2 11)) then (if x10_1.length < 8796093022208 then (grapevinelaw04_DiffLong.l0 kj9 a0 a1 a3 t164 (x10_1 ++ [(a0 ++ a1) ++ (⟨#[61]⟩ : ByteArray)]) y165 (wrap64 (Int.tmod a2 11)) (wrap64 (x13_1 + 1))) else (none)) else (if x13_1 ≥ (wrap64 ((wrap64 (Int.tmod a2 11)) + 300)) then (if x10_1.length < 8796093022208 then (grapevinelaw04_DiffLong.l0 kj9 a0 a1 a3 t164 (x10_1 ++ [(a0 ++ a1) ++ (⟨#[61]⟩ : ByteArray)]) y165 (wrap64 (Int.tmod a2 11)) (wrap64 (x13_1 + 1))) else (none)) else (if x10_1.length < 8796093022208 then (grapevinelaw04_DiffLong.l0 kj9 a0 a1 a3 t164 (x10_1 ++ [a0]) y165 (wrap64 (Int.tmod a2 11)) (wrap64 (x13_1 + 1))) else (none))))) else (none)) else (none)) else (none)) = some r := by rw [if_pos rfl] at H; exact H
                clear H
                have H := H1
                clear H1
                by_cases c13 : a0.size + a1.size ≤ 9223372036854775807
                · rw [if_pos c13] at H
                  have c13b0 := eq_true c13
                  have c13b1 : decide (a0.size + a1.size ≤ 9223372036854775807) = true := decide_eq_true c13
                  try have c13b2 : (9223372036854775807 < a0.size + a1.size) = False := eq_false (Nat.not_lt.2 c13)
                  by_cases c14 : (a0 ++ a1).size + 1 ≤ 9223372036854775807
                  · rw [if_pos c14] at H
                    have c14s0 : a0.size + a1.size + 1 ≤ 9223372036854775807 := by have h_ := c14; rw [ByteArray.size_append] at h_; exact h_
                    try have c14s1 : (9223372036854775807 < a0.size + a1.size + 1) = False := eq_false (Nat.not_lt.2 c14s0)
                    have c14b0 := eq_true c14
                    have c14b1 : decide ((a0 ++ a1).size + 1 ≤ 9223372036854775807) = true := decide_eq_true c14
                    try have c14b2 : (9223372036854775807 < (a0 ++ a1).size + 1) = False := eq_false (Nat.not_lt.2 c14)
                    by_cases c15 : x11_1.length < 8796093022208
                    · rw [if_pos c15] at H
                      have LMc15 := Aside0.mk c15
                      clear c15
                      obtain ⟨y165, hy165⟩ : ∃ y_ : List ByteArray, y_ = (x11_1 ++ [(a0 ++ a1) ++ (⟨#[61]⟩ : ByteArray)]) := ⟨_, rfl⟩
                      replace H : (if x13_1 < (wrap64 (Int.tmod a2 11)) then (if x10_1.length < 8796093022208 then (grapevinelaw04_DiffLong.l0 kj9 a0 a1 a3 t164 (x10_1 ++ [(a0 ++ a1) ++ (⟨#[61]⟩ : ByteArray)]) y165 (wrap64 (Int.tmod a2 11)) (wrap64 (x13_1 + 1))) else (none)) else (if x13_1 ≥ (wrap64 ((wrap64 (Int.tmod a2 11)) + 300)) then (if x10_1.length < 8796093022208 then (grapevinelaw04_DiffLong.l0 kj9 a0 a1 a3 t164 (x10_1 ++ [(a0 ++ a1) ++ (⟨#[61]⟩ : ByteArray)]) y165 (wrap64 (Int.tmod a2 11)) (wrap64 (x13_1 + 1))) else (none)) else (if x10_1.length < 8796093022208 then (grapevinelaw04_DiffLong.l0 kj9 a0 a1 a3 t164 (x10_1 ++ [a0]) y165 (wrap64 (Int.tmod a2 11)) (wrap64 (x13_1 + 1))) else (none)))) = some r := by first | (rw [hy165]; with_reducible exact H) | (have H2_ := (Option.bind_some _ _).symm.trans H; rw [hy165]; with_reducible exact H2_) | (have H2_ := (Option.bind_some _ _).symm.trans H; with_reducible exact H2_) | with_reducible exact H | (rw [hy165]; exact H) | exact H
                      have Ny165 := Aside0.mk hy165
                      clear hy165
                      by_cases c16 : x13_1 < (wrap64 (Int.tmod a2 11))
                      · rw [if_pos c16] at H
                        have c16b0 : decide (x13_1 < (wrap64 (Int.tmod a2 11))) = true := decide_eq_true c16
                        clear c16
                        by_cases c17 : x10_1.length < 8796093022208
                        · rw [if_pos c17] at H
                          have LMc17 := Aside0.mk c17
                          clear c17
                          obtain ⟨y168, hy168⟩ : ∃ y_ : List ByteArray, y_ = (x10_1 ++ [(a0 ++ a1) ++ (⟨#[61]⟩ : ByteArray)]) := ⟨_, rfl⟩
                          replace H : (grapevinelaw04_DiffLong.l0 kj9 a0 a1 a3 t164 y168 y165 (wrap64 (Int.tmod a2 11)) (wrap64 (x13_1 + 1))) = some r := by first | (rw [hy168]; with_reducible exact H) | (have H2_ := (Option.bind_some _ _).symm.trans H; rw [hy168]; with_reducible exact H2_) | (have H2_ := (Option.bind_some _ _).symm.trans H; with_reducible exact H2_) | with_reducible exact H | (rw [hy168]; exact H) | exact H
                          have Ny168 := Aside0.mk hy168
                          clear hy168
                          have H' := Aside0.mk H
                          clear H
                          go_wp2_with (first | ((with_reducible refine gate_builtin (b := .append) (xs := #[.tmp 48, .tmp 50]) rfl ?_); (try (refine gate_guard (by rfl) ?_; dsimp only)); at_builtin; refine Kd.R_append Kd.string (w0 := w) w.heap.size rfl (.tmp 48) (.tmp 50) 22 9 (.string ⟨#[]⟩) 16 rfl Try.underlying22 info9 rfl (by decide) (by omega) u11 x11_1 ((a0 ++ a1) ++ (⟨#[61]⟩ : ByteArray)) [.string ((a0 ++ a1) ++ (⟨#[61]⟩ : ByteArray))] (fun k_ => some k_ ≠ (u10 : Value).ownBlock) (fun _ => False) rfl rfl ?aP (fun _ hk => hk.elim) ?aF ?aO ?aB ?aS ?aL ?_; (case aP => exact rfl); (case aB => exact (by repeat (first | (with_reducible first | exact HB.out | apply below_alloc | apply pw_below_drewN | apply below_drew1) | exact HB.out))); (case aF => exact (fun k_ hk => Kd.fresh' (Kd.R_lt (by (with_reducible repeat (first | apply Kd.R_alloc | apply Kd.R_drewN | apply Kd.R_drew)); exact HO_10.out)) k_ hk)); (case aO => exact (by (with_reducible repeat (first | apply Kd.R_alloc | apply Kd.R_drewN | apply Kd.R_drew)); exact HO_11.out)); (case aS => exact (below_size (by repeat (first | (with_reducible first | exact HB.out | apply below_alloc | apply pw_below_drewN | apply below_drew1) | exact HB.out)))); (case aL => have := LMc15.out; omega); intro v166 w18 ho hb hg hat; rw [← Ny165.out] at ho; have n0_ := Aside0.mk (Kd.R_after (ok := (fun _ => True)) (by (with_reducible repeat (first | apply Kd.R_alloc | apply Kd.R_drewN | apply Kd.R_drew)); exact Kd.R_mono HO_10.out (fun _ hk => ⟨trivial, hk⟩)) hg hat); have n1_ := Aside0.mk (hb); have n2_ := Aside0.mk (ho); clear HO_10; clear HB; clear HO_11; have HO_10 := n0_; have HB := n1_; have HO167 := n2_; clear n0_ n1_ n2_; clear ho hb hg hat) | ((with_reducible refine gate_builtin (b := .append) (xs := #[.tmp 61, .tmp 63]) rfl ?_); (try (refine gate_guard (by rfl) ?_; dsimp only)); at_builtin; refine Kd.R_append Kd.string (w0 := w) w.heap.size rfl (.tmp 61) (.tmp 63) 22 9 (.string ⟨#[]⟩) 16 rfl Try.underlying22 info9 rfl (by decide) (by omega) u10 x10_1 ((a0 ++ a1) ++ (⟨#[61]⟩ : ByteArray)) [.string ((a0 ++ a1) ++ (⟨#[61]⟩ : ByteArray))] (fun k_ => some k_ ≠ (v166 : Value).ownBlock) (fun _ => False) rfl rfl ?aP (fun _ hk => hk.elim) ?aF ?aO ?aB ?aS ?aL ?_; (case aP => exact rfl); (case aB => exact (by repeat (first | (with_reducible first | exact HB.out | apply below_alloc | apply pw_below_drewN | apply below_drew1) | exact HB.out))); (case aF => exact (fun k_ hk => Kd.fresh' (Kd.R_lt (by (with_reducible repeat (first | apply Kd.R_alloc | apply Kd.R_drewN | apply Kd.R_drew)); exact HO167.out)) k_ hk)); (case aO => exact (by (with_reducible repeat (first | apply Kd.R_alloc | apply Kd.R_drewN | apply Kd.R_drew)); exact Kd.R_mono HO_10.out (fun _ hk => hk.2))); (case aS => exact (below_size (by repeat (first | (with_reducible first | exact HB.out | apply below_alloc | apply pw_below_drewN | apply below_drew1) | exact HB.out)))); (case aL => have := LMc17.out; omega); intro v169 w19 ho hb hg hat; rw [← Ny168.out] at ho; have n0_ := Aside0.mk (Kd.R_after (ok := (fun _ => True)) (by (with_reducible repeat (first | apply Kd.R_alloc | apply Kd.R_drewN | apply Kd.R_drew)); exact Kd.R_mono HO167.out (fun _ hk => ⟨trivial, hk⟩)) hg hat); have n1_ := Aside0.mk (hb); have n2_ := Aside0.mk (ho); clear HO167; clear HB; clear HO_10; have HO167 := n0_; have HB := n1_; have HO170 := n2_; clear n0_ n1_ n2_; clear ho hb hg hat))
                          go_roundg kj9
                          case measure => have := HK1.out; have := HJ9.out; omega
                          case rel => exact ⟨(y168), (y165), (wrap64 (x13_1 + 1)), (by first | rfl | (simp; done) | (simp [*]; done)), H', ⟨by have := HK1.out; have := HJ9.out; omega⟩, ⟨by (with_reducible repeat (first | apply Kd.R_alloc | apply Kd.R_drewN | apply Kd.R_drew)); exact HO170.out⟩, ⟨by (with_reducible repeat (first | apply Kd.R_alloc | apply Kd.R_drewN | apply Kd.R_drew)); exact Kd.R_mono HO167.out (fun _ hk => hk.2)⟩, ⟨by repeat (first | (with_reducible first | exact HB.out | apply below_alloc | apply pw_below_drewN | apply below_drew1) | exact HB.out)⟩⟩
                        · rw [if_neg c17] at H
                          exact absurd H (by simp)
                      · rw [if_neg c16] at H
                        have c16b0 : decide (x13_1 < (wrap64 (Int.tmod a2 11))) = false := decide_eq_false c16
                        clear c16
                        by_cases c20 : x13_1 ≥ (wrap64 ((wrap64 (Int.tmod a2 11)) + 300))
                        · rw [if_pos c20] at H
                          have c20b0 : decide ((wrap64 ((wrap64 (Int.tmod a2 11)) + 300)) ≤ x13_1) = true := decide_eq_true c20
                          clear c20
                          by_cases c21 : x10_1.length < 8796093022208
                          · rw [if_pos c21] at H
                            have LMc21 := Aside0.mk c21
                            clear c21
                            obtain ⟨y171, hy171⟩ : ∃ y_ : List ByteArray, y_ = (x10_1 ++ [(a0 ++ a1) ++ (⟨#[61]⟩ : ByteArray)]) := ⟨_, rfl⟩
                            replace H : (grapevinelaw04_DiffLong.l0 kj9 a0 a1 a3 t164 y171 y165 (wrap64 (Int.tmod a2 11)) (wrap64 (x13_1 + 1))) = some r := by first | (rw [hy171]; with_reducible exact H) | (have H2_ := (Option.bind_some _ _).symm.trans H; rw [hy171]; with_reducible exact H2_) | (have H2_ := (Option.bind_some _ _).symm.trans H; with_reducible exact H2_) | with_reducible exact H | (rw [hy171]; exact H) | exact H
                            have Ny171 := Aside0.mk hy171
                            clear hy171
                            have H' := Aside0.mk H
                            clear H
                            go_wp2_with (first | ((with_reducible refine gate_builtin (b := .append) (xs := #[.tmp 48, .tmp 50]) rfl ?_); (try (refine gate_guard (by rfl) ?_; dsimp only)); at_builtin; refine Kd.R_append Kd.string (w0 := w) w.heap.size rfl (.tmp 48) (.tmp 50) 22 9 (.string ⟨#[]⟩) 16 rfl Try.underlying22 info9 rfl (by decide) (by omega) u11 x11_1 ((a0 ++ a1) ++ (⟨#[61]⟩ : ByteArray)) [.string ((a0 ++ a1) ++ (⟨#[61]⟩ : ByteArray))] (fun k_ => some k_ ≠ (u10 : Value).ownBlock) (fun _ => False) rfl rfl ?aP (fun _ hk => hk.elim) ?aF ?aO ?aB ?aS ?aL ?_; (case aP => exact rfl); (case aB => exact (by repeat (first | (with_reducible first | exact HB.out | apply below_alloc | apply pw_below_drewN | apply below_drew1) | exact HB.out))); (case aF => exact (fun k_ hk => Kd.fresh' (Kd.R_lt (by (with_reducible repeat (first | apply Kd.R_alloc | apply Kd.R_drewN | apply Kd.R_drew)); exact HO_10.out)) k_ hk)); (case aO => exact (by (with_reducible repeat (first | apply Kd.R_alloc | apply Kd.R_drewN | apply Kd.R_drew)); exact HO_11.out)); (case aS => exact (below_size (by repeat (first | (with_reducible first | exact HB.out | apply below_alloc | apply pw_below_drewN | apply below_drew1) | exact HB.out)))); (case aL => have := LMc15.out; omega); intro v166 w22 ho hb hg hat; rw [← Ny165.out] at ho; have n0_ := Aside0.mk (Kd.R_after (ok := (fun _ => True)) (by (with_reducible repeat (first | apply Kd.R_alloc | apply Kd.R_drewN | apply Kd.R_drew)); exact Kd.R_mono HO_10.out (fun _ hk => ⟨trivial, hk⟩)) hg hat); have n1_ := Aside0.mk (hb); have n2_ := Aside0.mk (ho); clear HO_10; clear HB; clear HO_11; have HO_10 := n0_; have HB := n1_; have HO167 := n2_; clear n0_ n1_ n2_; clear ho hb hg hat) | ((with_reducible refine gate_builtin (b := .append) (xs := #[.tmp 61, .tmp 63]) rfl ?_); (try (refine gate_guard (by rfl) ?_; dsimp only)); at_builtin; refine Kd.R_append Kd.string (w0 := w) w.heap.size rfl (.tmp 61) (.tmp 63) 22 9 (.string ⟨#[]⟩) 16 rfl Try.underlying22 info9 rfl (by decide) (by omega) u10 x10_1 ((a0 ++ a1) ++ (⟨#[61]⟩ : ByteArray)) [.string ((a0 ++ a1) ++ (⟨#[61]⟩ : ByteArray))] (fun k_ => some k_ ≠ (v166 : Value).ownBlock) (fun _ => False) rfl rfl ?aP (fun _ hk => hk.elim) ?aF ?aO ?aB ?aS ?aL ?_; (case aP => exact rfl); (case aB => exact (by repeat (first | (with_reducible first | exact HB.out | apply below_alloc | apply pw_below_drewN | apply below_drew1) | exact HB.out))); (case aF => exact (fun k_ hk => Kd.fresh' (Kd.R_lt (by (with_reducible repeat (first | apply Kd.R_alloc | apply Kd.R_drewN | apply Kd.R_drew)); exact HO167.out)) k_ hk)); (case aO => exact (by (with_reducible repeat (first | apply Kd.R_alloc | apply Kd.R_drewN | apply Kd.R_drew)); exact Kd.R_mono HO_10.out (fun _ hk => hk.2))); (case aS => exact (below_size (by repeat (first | (with_reducible first | exact HB.out | apply below_alloc | apply pw_below_drewN | apply below_drew1) | exact HB.out)))); (case aL => have := LMc21.out; omega); intro v172 w23 ho hb hg hat; rw [← Ny171.out] at ho; have n0_ := Aside0.mk (Kd.R_after (ok := (fun _ => True)) (by (with_reducible repeat (first | apply Kd.R_alloc | apply Kd.R_drewN | apply Kd.R_drew)); exact Kd.R_mono HO167.out (fun _ hk => ⟨trivial, hk⟩)) hg hat); have n1_ := Aside0.mk (hb); have n2_ := Aside0.mk (ho); clear HO167; clear HB; clear HO_10; have HO167 := n0_; have HB := n1_; have HO173 := n2_; clear n0_ n1_ n2_; clear ho hb hg hat))
                            go_roundg kj9
                            case measure => have := HK1.out; have := HJ9.out; omega
                            case rel => exact ⟨(y171), (y165), (wrap64 (x13_1 + 1)), (by first | rfl | (simp; done) | (simp [*]; done)), H', ⟨by have := HK1.out; have := HJ9.out; omega⟩, ⟨by (with_reducible repeat (first | apply Kd.R_alloc | apply Kd.R_drewN | apply Kd.R_drew)); exact HO173.out⟩, ⟨by (with_reducible repeat (first | apply Kd.R_alloc | apply Kd.R_drewN | apply Kd.R_drew)); exact Kd.R_mono HO167.out (fun _ hk => hk.2)⟩, ⟨by repeat (first | (with_reducible first | exact HB.out | apply below_alloc | apply pw_below_drewN | apply below_drew1) | exact HB.out)⟩⟩
                          · rw [if_neg c21] at H
                            exact absurd H (by simp)
                        · rw [if_neg c20] at H
                          have c20b0 : decide ((wrap64 ((wrap64 (Int.tmod a2 11)) + 300)) ≤ x13_1) = false := decide_eq_false c20
                          clear c20
                          by_cases c24 : x10_1.length < 8796093022208
                          · rw [if_pos c24] at H
                            have LMc24 := Aside0.mk c24
                            clear c24
                            obtain ⟨y174, hy174⟩ : ∃ y_ : List ByteArray, y_ = (x10_1 ++ [a0]) := ⟨_, rfl⟩
                            replace H : (grapevinelaw04_DiffLong.l0 kj9 a0 a1 a3 t164 y174 y165 (wrap64 (Int.tmod a2 11)) (wrap64 (x13_1 + 1))) = some r := by first | (rw [hy174]; with_reducible exact H) | (have H2_ := (Option.bind_some _ _).symm.trans H; rw [hy174]; with_reducible exact H2_) | (have H2_ := (Option.bind_some _ _).symm.trans H; with_reducible exact H2_) | with_reducible exact H | (rw [hy174]; exact H) | exact H
                            have Ny174 := Aside0.mk hy174
                            clear hy174
                            have H' := Aside0.mk H
                            clear H
                            go_wp2_with (first | ((with_reducible refine gate_builtin (b := .append) (xs := #[.tmp 48, .tmp 50]) rfl ?_); (try (refine gate_guard (by rfl) ?_; dsimp only)); at_builtin; refine Kd.R_append Kd.string (w0 := w) w.heap.size rfl (.tmp 48) (.tmp 50) 22 9 (.string ⟨#[]⟩) 16 rfl Try.underlying22 info9 rfl (by decide) (by omega) u11 x11_1 ((a0 ++ a1) ++ (⟨#[61]⟩ : ByteArray)) [.string ((a0 ++ a1) ++ (⟨#[61]⟩ : ByteArray))] (fun k_ => some k_ ≠ (u10 : Value).ownBlock) (fun _ => False) rfl rfl ?aP (fun _ hk => hk.elim) ?aF ?aO ?aB ?aS ?aL ?_; (case aP => exact rfl); (case aB => exact (by repeat (first | (with_reducible first | exact HB.out | apply below_alloc | apply pw_below_drewN | apply below_drew1) | exact HB.out))); (case aF => exact (fun k_ hk => Kd.fresh' (Kd.R_lt (by (with_reducible repeat (first | apply Kd.R_alloc | apply Kd.R_drewN | apply Kd.R_drew)); exact HO_10.out)) k_ hk)); (case aO => exact (by (with_reducible repeat (first | apply Kd.R_alloc | apply Kd.R_drewN | apply Kd.R_drew)); exact HO_11.out)); (case aS => exact (below_size (by repeat (first | (with_reducible first | exact HB.out | apply below_alloc | apply pw_below_drewN | apply below_drew1) | exact HB.out)))); (case aL => have := LMc15.out; omega); intro v166 w25 ho hb hg hat; rw [← Ny165.out] at ho; have n0_ := Aside0.mk (Kd.R_after (ok := (fun _ => True)) (by (with_reducible repeat (first | apply Kd.R_alloc | apply Kd.R_drewN | apply Kd.R_drew)); exact Kd.R_mono HO_10.out (fun _ hk => ⟨trivial, hk⟩)) hg hat); have n1_ := Aside0.mk (hb); have n2_ := Aside0.mk (ho); clear HO_10; clear HB; clear HO_11; have HO_10 := n0_; have HB := n1_; have HO167 := n2_; clear n0_ n1_ n2_; clear ho hb hg hat) | ((with_reducible refine gate_builtin (b := .append) (xs := #[.tmp 65, .tmp 67]) rfl ?_); (try (refine gate_guard (by rfl) ?_; dsimp only)); at_builtin; refine Kd.R_append Kd.string (w0 := w) w.heap.size rfl (.tmp 65) (.tmp 67) 22 9 (.string ⟨#[]⟩) 16 rfl Try.underlying22 info9 rfl (by decide) (by omega) u10 x10_1 a0 [.string a0] (fun k_ => some k_ ≠ (v166 : Value).ownBlock) (fun _ => False) rfl rfl ?aP (fun _ hk => hk.elim) ?aF ?aO ?aB ?aS ?aL ?_; (case aP => exact rfl); (case aB => exact (by repeat (first | (with_reducible first | exact HB.out | apply below_alloc | apply pw_below_drewN | apply below_drew1) | exact HB.out))); (case aF => exact (fun k_ hk => Kd.fresh' (Kd.R_lt (by (with_reducible repeat (first | apply Kd.R_alloc | apply Kd.R_drewN | apply Kd.R_drew)); exact HO167.out)) k_ hk)); (case aO => exact (by (with_reducible repeat (first | apply Kd.R_alloc | apply Kd.R_drewN | apply Kd.R_drew)); exact Kd.R_mono HO_10.out (fun _ hk => hk.2))); (case aS => exact (below_size (by repeat (first | (with_reducible first | exact HB.out | apply below_alloc | apply pw_below_drewN | apply below_drew1) | exact HB.out)))); (case aL => have := LMc24.out; omega); intro v175 w26 ho hb hg hat; rw [← Ny174.out] at ho; have n0_ := Aside0.mk (Kd.R_after (ok := (fun _ => True)) (by (with_reducible repeat (first | apply Kd.R_alloc | apply Kd.R_drewN | apply Kd.R_drew)); exact Kd.R_mono HO167.out (fun _ hk => ⟨trivial, hk⟩)) hg hat); have n1_ := Aside0.mk (hb); have n2_ := Aside0.mk (ho); clear HO167; clear HB; clear HO_10; have HO167 := n0_; have HB := n1_; have HO176 := n2_; clear n0_ n1_ n2_; clear ho hb hg hat))
                            go_roundg kj9
                            case measure => have := HK1.out; have := HJ9.out; omega
                            case rel => exact ⟨(y174), (y165), (wrap64 (x13_1 + 1)), (by first | rfl | (simp; done) | (simp [*]; done)), H', ⟨by have := HK1.out; have := HJ9.out; omega⟩, ⟨by (with_reducible repeat (first | apply Kd.R_alloc | apply Kd.R_drewN | apply Kd.R_drew)); exact HO176.out⟩, ⟨by (with_reducible repeat (first | apply Kd.R_alloc | apply Kd.R_drewN | apply Kd.R_drew)); exact Kd.R_mono HO167.out (fun _ hk => hk.2)⟩, ⟨by repeat (first | (with_reducible first | exact HB.out | apply below_alloc | apply pw_below_drewN | apply below_drew1) | exact HB.out)⟩⟩
                          · rw [if_neg c24] at H
                            exact absurd H (by simp)
                    · rw [if_neg c15] at H
                      exact absurd H (by simp)
                  · rw [if_neg c14] at H
                    exact absurd H (by simp)
                · rw [if_neg c13] at H
                  exact absurd H (by simp)
              · replace c12 := Bool.eq_false_iff.mpr c12
                subst c12
                have H1 : (if x11_1.length < 8796093022208 then ((some (x11_1 ++ [a1] : List ByteArray)).bind fun y177 => (if x13_1 < (wrap64 (Int.tmod a2 11)) then (if x10_1.length < 8796093022208 then (grapevinelaw04_DiffLong.l0 kj9 a0 a1 a3 t164 (x10_1 ++ [a1]) y177 (wrap64 (Int.tmod a2 11)) (wrap64 (x13_1 + 1))) else (none)) else (if x13_1 ≥ (wrap64 ((wrap64 (Int.tmod a2 11)) + 300)) then (if x10_1.length < 8796093022208 then (grapevinelaw04_DiffLong.l0 kj9 a0 a1 a3 t164 (x10_1 ++ [a1]) y177 (wrap64 (Int.tmod a2 11)) (wrap64 (x13_1 + 1))) else (none)) else (if x10_1.length < 8796093022208 then (grapevinelaw04_DiffLong.l0 kj9 a0 a1 a3 t164 (x10_1 ++ [a0]) y177 (wrap64 (Int.tmod a2 11)) (wrap64 (x13_1 + 1))) else (none))))) else (none)) = some r := by rw [if_neg (show ¬ (false = true) by decide)] at H; exact H
                clear H
                have H := H1
                clear H1
                by_cases c27 : x11_1.length < 8796093022208
                · rw [if_pos c27] at H
                  have LMc27 := Aside0.mk c27
                  clear c27
                  obtain ⟨y177, hy177⟩ : ∃ y_ : List ByteArray, y_ = (x11_1 ++ [a1]) := ⟨_, rfl⟩
                  replace H : (if x13_1 < (wrap64 (Int.tmod a2 11)) then (if x10_1.length < 8796093022208 then (grapevinelaw04_DiffLong.l0 kj9 a0 a1 a3 t164 (x10_1 ++ [a1]) y177 (wrap64 (Int.tmod a2 11)) (wrap64 (x13_1 + 1))) else (none)) else (if x13_1 ≥ (wrap64 ((wrap64 (Int.tmod a2 11)) + 300)) then (if x10_1.length < 8796093022208 then (grapevinelaw04_DiffLong.l0 kj9 a0 a1 a3 t164 (x10_1 ++ [a1]) y177 (wrap64 (Int.tmod a2 11)) (wrap64 (x13_1 + 1))) else (none)) else (if x10_1.length < 8796093022208 then (grapevinelaw04_DiffLong.l0 kj9 a0 a1 a3 t164 (x10_1 ++ [a0]) y177 (wrap64 (Int.tmod a2 11)) (wrap64 (x13_1 + 1))) else (none)))) = some r := by first | (rw [hy177]; with_reducible exact H) | (have H2_ := (Option.bind_some _ _).symm.trans H; rw [hy177]; with_reducible exact H2_) | (have H2_ := (Option.bind_some _ _).symm.trans H; with_reducible exact H2_) | with_reducible exact H | (rw [hy177]; exact H) | exact H
                  have Ny177 := Aside0.mk hy177
                  clear hy177
                  by_cases c28 : x13_1 < (wrap64 (Int.tmod a2 11))
                  · rw [if_pos c28] at H
                    have c28b0 : decide (x13_1 < (wrap64 (Int.tmod a2 11))) = true := decide_eq_true c28
                    clear c28
                    by_cases c29 : x10_1.length < 8796093022208
                    · rw [if_pos c29] at H
                      have LMc29 := Aside0.mk c29
                      clear c29
                      obtain ⟨y180, hy180⟩ : ∃ y_ : List ByteArray, y_ = (x10_1 ++ [a1]) := ⟨_, rfl⟩
                      replace H : (grapevinelaw04_DiffLong.l0 kj9 a0 a1 a3 t164 y180 y177 (wrap64 (Int.tmod a2 11)) (wrap64 (x13_1 + 1))) = some r := by first | (rw [hy180]; with_reducible exact H) | (have H2_ := (Option.bind_some _ _).symm.trans H; rw [hy180]; with_reducible exact H2_) | (have H2_ := (Option.bind_some _ _).symm.trans H; with_reducible exact H2_) | with_reducible exact H | (rw [hy180]; exact H) | exact H
                      have Ny180 := Aside0.mk hy180
                      clear hy180
                      have H' := Aside0.mk H
                      clear H
                      go_wp2_with (first | ((with_reducible refine gate_builtin (b := .append) (xs := #[.tmp 48, .tmp 50]) rfl ?_); (try (refine gate_guard (by rfl) ?_; dsimp only)); at_builtin; refine Kd.R_append Kd.string (w0 := w) w.heap.size rfl (.tmp 48) (.tmp 50) 22 9 (.string ⟨#[]⟩) 16 rfl Try.underlying22 info9 rfl (by decide) (by omega) u11 x11_1 a1 [.string a1] (fun k_ => some k_ ≠ (u10 : Value).ownBlock) (fun _ => False) rfl rfl ?aP (fun _ hk => hk.elim) ?aF ?aO ?aB ?aS ?aL ?_; (case aP => exact rfl); (case aB => exact (by repeat (first | (with_reducible first | exact HB.out | apply below_alloc | apply pw_below_drewN | apply below_drew1) | exact HB.out))); (case aF => exact (fun k_ hk => Kd.fresh' (Kd.R_lt (by (with_reducible repeat (first | apply Kd.R_alloc | apply Kd.R_drewN | apply Kd.R_drew)); exact HO_10.out)) k_ hk)); (case aO => exact (by (with_reducible repeat (first | apply Kd.R_alloc | apply Kd.R_drewN | apply Kd.R_drew)); exact HO_11.out)); (case aS => exact (below_size (by repeat (first | (with_reducible first | exact HB.out | apply below_alloc | apply pw_below_drewN | apply below_drew1) | exact HB.out)))); (case aL => have := LMc27.out; omega); intro v178 w30 ho hb hg hat; rw [← Ny177.out] at ho; have n0_ := Aside0.mk (Kd.R_after (ok := (fun _ => True)) (by (with_reducible repeat (first | apply Kd.R_alloc | apply Kd.R_drewN | apply Kd.R_drew)); exact Kd.R_mono HO_10.out (fun _ hk => ⟨trivial, hk⟩)) hg hat); have n1_ := Aside0.mk (hb); have n2_ := Aside0.mk (ho); clear HO_10; clear HB; clear HO_11; have HO_10 := n0_; have HB := n1_; have HO179 := n2_; clear n0_ n1_ n2_; clear ho hb hg hat) | ((with_reducible refine gate_builtin (b := .append) (xs := #[.tmp 61, .tmp 63]) rfl ?_); (try (refine gate_guard (by rfl) ?_; dsimp only)); at_builtin; refine Kd.R_append Kd.string (w0 := w) w.heap.size rfl (.tmp 61) (.tmp 63) 22 9 (.string ⟨#[]⟩) 16 rfl Try.underlying22 info9 rfl (by decide) (by omega) u10 x10_1 a1 [.string a1] (fun k_ => some k_ ≠ (v178 : Value).ownBlock) (fun _ => False) rfl rfl ?aP (fun _ hk => hk.elim) ?aF ?aO ?aB ?aS ?aL ?_; (case aP => exact rfl); (case aB => exact (by repeat (first | (with_reducible first | exact HB.out | apply below_alloc | apply pw_below_drewN | apply below_drew1) | exact HB.out))); (case aF => exact (fun k_ hk => Kd.fresh' (Kd.R_lt (by (with_reducible repeat (first | apply Kd.R_alloc | apply Kd.R_drewN | apply Kd.R_drew)); exact HO179.out)) k_ hk)); (case aO => exact (by (with_reducible repeat (first | apply Kd.R_alloc | apply Kd.R_drewN | apply Kd.R_drew)); exact Kd.R_mono HO_10.out (fun _ hk => hk.2))); (case aS => exact (below_size (by repeat (first | (with_reducible first | exact HB.out | apply below_alloc | apply pw_below_drewN | apply below_drew1) | exact HB.out)))); (case aL => have := LMc29.out; omega); intro v181 w31 ho hb hg hat; rw [← Ny180.out] at ho; have n0_ := Aside0.mk (Kd.R_after (ok := (fun _ => True)) (by (with_reducible repeat (first | apply Kd.R_alloc | apply Kd.R_drewN | apply Kd.R_drew)); exact Kd.R_mono HO179.out (fun _ hk => ⟨trivial, hk⟩)) hg hat); have n1_ := Aside0.mk (hb); have n2_ := Aside0.mk (ho); clear HO179; clear HB; clear HO_10; have HO179 := n0_; have HB := n1_; have HO182 := n2_; clear n0_ n1_ n2_; clear ho hb hg hat))
                      go_roundg kj9
                      case measure => have := HK1.out; have := HJ9.out; omega
                      case rel => exact ⟨(y180), (y177), (wrap64 (x13_1 + 1)), (by first | rfl | (simp; done) | (simp [*]; done)), H', ⟨by have := HK1.out; have := HJ9.out; omega⟩, ⟨by (with_reducible repeat (first | apply Kd.R_alloc | apply Kd.R_drewN | apply Kd.R_drew)); exact HO182.out⟩, ⟨by (with_reducible repeat (first | apply Kd.R_alloc | apply Kd.R_drewN | apply Kd.R_drew)); exact Kd.R_mono HO179.out (fun _ hk => hk.2)⟩, ⟨by repeat (first | (with_reducible first | exact HB.out | apply below_alloc | apply pw_below_drewN | apply below_drew1) | exact HB.out)⟩⟩
                    · rw [if_neg c29] at H
                      exact absurd H (by simp)
                  · rw [if_neg c28] at H
                    have c28b0 : decide (x13_1 < (wrap64 (Int.tmod a2 11))) = false := decide_eq_false c28
                    clear c28
                    by_cases c32 : x13_1 ≥ (wrap64 ((wrap64 (Int.tmod a2 11)) + 300))
                    · rw [if_pos c32] at H
                      have c32b0 : decide ((wrap64 ((wrap64 (Int.tmod a2 11)) + 300)) ≤ x13_1) = true := decide_eq_true c32
                      clear c32
                      by_cases c33 : x10_1.length < 8796093022208
                      · rw [if_pos c33] at H
                        have LMc33 := Aside0.mk c33
                        clear c33
                        obtain ⟨y183, hy183⟩ : ∃ y_ : List ByteArray, y_ = (x10_1 ++ [a1]) := ⟨_, rfl⟩
                        replace H : (grapevinelaw04_DiffLong.l0 kj9 a0 a1 a3 t164 y183 y177 (wrap64 (Int.tmod a2 11)) (wrap64 (x13_1 + 1))) = some r := by first | (rw [hy183]; with_reducible exact H) | (have H2_ := (Option.bind_some _ _).symm.trans H; rw [hy183]; with_reducible exact H2_) | (have H2_ := (Option.bind_some _ _).symm.trans H; with_reducible exact H2_) | with_reducible exact H | (rw [hy183]; exact H) | exact H
                        have Ny183 := Aside0.mk hy183
                        clear hy183
                        have H' := Aside0.mk H
                        clear H
                        go_wp2_with (first | ((with_reducible refine gate_builtin (b := .append) (xs := #[.tmp 48, .tmp 50]) rfl ?_); (try (refine gate_guard (by rfl) ?_; dsimp only)); at_builtin; refine Kd.R_append Kd.string (w0 := w) w.heap.size rfl (.tmp 48) (.tmp 50) 22 9 (.string ⟨#[]⟩) 16 rfl Try.underlying22 info9 rfl (by decide) (by omega) u11 x11_1 a1 [.string a1] (fun k_ => some k_ ≠ (u10 : Value).ownBlock) (fun _ => False) rfl rfl ?aP (fun _ hk => hk.elim) ?aF ?aO ?aB ?aS ?aL ?_; (case aP => exact rfl); (case aB => exact (by repeat (first | (with_reducible first | exact HB.out | apply below_alloc | apply pw_below_drewN | apply below_drew1) | exact HB.out))); (case aF => exact (fun k_ hk => Kd.fresh' (Kd.R_lt (by (with_reducible repeat (first | apply Kd.R_alloc | apply Kd.R_drewN | apply Kd.R_drew)); exact HO_10.out)) k_ hk)); (case aO => exact (by (with_reducible repeat (first | apply Kd.R_alloc | apply Kd.R_drewN | apply Kd.R_drew)); exact HO_11.out)); (case aS => exact (below_size (by repeat (first | (with_reducible first | exact HB.out | apply below_alloc | apply pw_below_drewN | apply below_drew1) | exact HB.out)))); (case aL => have := LMc27.out; omega); intro v178 w34 ho hb hg hat; rw [← Ny177.out] at ho; have n0_ := Aside0.mk (Kd.R_after (ok := (fun _ => True)) (by (with_reducible repeat (first | apply Kd.R_alloc | apply Kd.R_drewN | apply Kd.R_drew)); exact Kd.R_mono HO_10.out (fun _ hk => ⟨trivial, hk⟩)) hg hat); have n1_ := Aside0.mk (hb); have n2_ := Aside0.mk (ho); clear HO_10; clear HB; clear HO_11; have HO_10 := n0_; have HB := n1_; have HO179 := n2_; clear n0_ n1_ n2_; clear ho hb hg hat) | ((with_reducible refine gate_builtin (b := .append) (xs := #[.tmp 61, .tmp 63]) rfl ?_); (try (refine gate_guard (by rfl) ?_; dsimp only)); at_builtin; refine Kd.R_append Kd.string (w0 := w) w.heap.size rfl (.tmp 61) (.tmp 63) 22 9 (.string ⟨#[]⟩) 16 rfl Try.underlying22 info9 rfl (by decide) (by omega) u10 x10_1 a1 [.string a1] (fun k_ => some k_ ≠ (v178 : Value).ownBlock) (fun _ => False) rfl rfl ?aP (fun _ hk => hk.elim) ?aF ?aO ?aB ?aS ?aL ?_; (case aP => exact rfl); (case aB => exact (by repeat (first | (with_reducible first | exact HB.out | apply below_alloc | apply pw_below_drewN | apply below_drew1) | exact HB.out))); (case aF => exact (fun k_ hk => Kd.fresh' (Kd.R_lt (by (with_reducible repeat (first | apply Kd.R_alloc | apply Kd.R_drewN | apply Kd.R_drew)); exact HO179.out)) k_ hk)); (case aO => exact (by (with_reducible repeat (first | apply Kd.R_alloc | apply Kd.R_drewN | apply Kd.R_drew)); exact Kd.R_mono HO_10.out (fun _ hk => hk.2))); (case aS => exact (below_size (by repeat (first | (with_reducible first | exact HB.out | apply below_alloc | apply pw_below_drewN | apply below_drew1) | exact HB.out)))); (case aL => have := LMc33.out; omega); intro v184 w35 ho hb hg hat; rw [← Ny183.out] at ho; have n0_ := Aside0.mk (Kd.R_after (ok := (fun _ => True)) (by (with_reducible repeat (first | apply Kd.R_alloc | apply Kd.R_drewN | apply Kd.R_drew)); exact Kd.R_mono HO179.out (fun _ hk => ⟨trivial, hk⟩)) hg hat); have n1_ := Aside0.mk (hb); have n2_ := Aside0.mk (ho); clear HO179; clear HB; clear HO_10; have HO179 := n0_; have HB := n1_; have HO185 := n2_; clear n0_ n1_ n2_; clear ho hb hg hat))
                        go_roundg kj9
                        case measure => have := HK1.out; have := HJ9.out; omega
                        case rel => exact ⟨(y183), (y177), (wrap64 (x13_1 + 1)), (by first | rfl | (simp; done) | (simp [*]; done)), H', ⟨by have := HK1.out; have := HJ9.out; omega⟩, ⟨by (with_reducible repeat (first | apply Kd.R_alloc | apply Kd.R_drewN | apply Kd.R_drew)); exact HO185.out⟩, ⟨by (with_reducible repeat (first | apply Kd.R_alloc | apply Kd.R_drewN | apply Kd.R_drew)); exact Kd.R_mono HO179.out (fun _ hk => hk.2)⟩, ⟨by repeat (first | (with_reducible first | exact HB.out | apply below_alloc | apply pw_below_drewN | apply below_drew1) | exact HB.out)⟩⟩
                      · rw [if_neg c33] at H
                        exact absurd H (by simp)
                    · rw [if_neg c32] at H
                      have c32b0 : decide ((wrap64 ((wrap64 (Int.tmod a2 11)) + 300)) ≤ x13_1) = false := decide_eq_false c32
                      clear c32
                      by_cases c36 : x10_1.length < 8796093022208
                      · rw [if_pos c36] at H
                        have LMc36 := Aside0.mk c36
                        clear c36
                        obtain ⟨y186, hy186⟩ : ∃ y_ : List ByteArray, y_ = (x10_1 ++ [a0]) := ⟨_, rfl⟩
                        replace H : (grapevinelaw04_DiffLong.l0 kj9 a0 a1 a3 t164 y186 y177 (wrap64 (Int.tmod a2 11)) (wrap64 (x13_1 + 1))) = some r := by first | (rw [hy186]; with_reducible exact H) | (have H2_ := (Option.bind_some _ _).symm.trans H; rw [hy186]; with_reducible exact H2_) | (have H2_ := (Option.bind_some _ _).symm.trans H; with_reducible exact H2_) | with_reducible exact H | (rw [hy186]; exact H) | exact H
                        have Ny186 := Aside0.mk hy186
                        clear hy186
                        have H' := Aside0.mk H
                        clear H
                        go_wp2_with (first | ((with_reducible refine gate_builtin (b := .append) (xs := #[.tmp 48, .tmp 50]) rfl ?_); (try (refine gate_guard (by rfl) ?_; dsimp only)); at_builtin; refine Kd.R_append Kd.string (w0 := w) w.heap.size rfl (.tmp 48) (.tmp 50) 22 9 (.string ⟨#[]⟩) 16 rfl Try.underlying22 info9 rfl (by decide) (by omega) u11 x11_1 a1 [.string a1] (fun k_ => some k_ ≠ (u10 : Value).ownBlock) (fun _ => False) rfl rfl ?aP (fun _ hk => hk.elim) ?aF ?aO ?aB ?aS ?aL ?_; (case aP => exact rfl); (case aB => exact (by repeat (first | (with_reducible first | exact HB.out | apply below_alloc | apply pw_below_drewN | apply below_drew1) | exact HB.out))); (case aF => exact (fun k_ hk => Kd.fresh' (Kd.R_lt (by (with_reducible repeat (first | apply Kd.R_alloc | apply Kd.R_drewN | apply Kd.R_drew)); exact HO_10.out)) k_ hk)); (case aO => exact (by (with_reducible repeat (first | apply Kd.R_alloc | apply Kd.R_drewN | apply Kd.R_drew)); exact HO_11.out)); (case aS => exact (below_size (by repeat (first | (with_reducible first | exact HB.out | apply below_alloc | apply pw_below_drewN | apply below_drew1) | exact HB.out)))); (case aL => have := LMc27.out; omega); intro v178 w37 ho hb hg hat; rw [← Ny177.out] at ho; have n0_ := Aside0.mk (Kd.R_after (ok := (fun _ => True)) (by (with_reducible repeat (first | apply Kd.R_alloc | apply Kd.R_drewN | apply Kd.R_drew)); exact Kd.R_mono HO_10.out (fun _ hk => ⟨trivial, hk⟩)) hg hat); have n1_ := Aside0.mk (hb); have n2_ := Aside0.mk (ho); clear HO_10; clear HB; clear HO_11; have HO_10 := n0_; have HB := n1_; have HO179 := n2_; clear n0_ n1_ n2_; clear ho hb hg hat) | ((with_reducible refine gate_builtin (b := .append) (xs := #[.tmp 65, .tmp 67]) rfl ?_); (try (refine gate_guard (by rfl) ?_; dsimp only)); at_builtin; refine Kd.R_append Kd.string (w0 := w) w.heap.size rfl (.tmp 65) (.tmp 67) 22 9 (.string ⟨#[]⟩) 16 rfl Try.underlying22 info9 rfl (by decide) (by omega) u10 x10_1 a0 [.string a0] (fun k_ => some k_ ≠ (v178 : Value).ownBlock) (fun _ => False) rfl rfl ?aP (fun _ hk => hk.elim) ?aF ?aO ?aB ?aS ?aL ?_; (case aP => exact rfl); (case aB => exact (by repeat (first | (with_reducible first | exact HB.out | apply below_alloc | apply pw_below_drewN | apply below_drew1) | exact HB.out))); (case aF => exact (fun k_ hk => Kd.fresh' (Kd.R_lt (by (with_reducible repeat (first | apply Kd.R_alloc | apply Kd.R_drewN | apply Kd.R_drew)); exact HO179.out)) k_ hk)); (case aO => exact (by (with_reducible repeat (first | apply Kd.R_alloc | apply Kd.R_drewN | apply Kd.R_drew)); exact Kd.R_mono HO_10.out (fun _ hk => hk.2))); (case aS => exact (below_size (by repeat (first | (with_reducible first | exact HB.out | apply below_alloc | apply pw_below_drewN | apply below_drew1) | exact HB.out)))); (case aL => have := LMc36.out; omega); intro v187 w38 ho hb hg hat; rw [← Ny186.out] at ho; have n0_ := Aside0.mk (Kd.R_after (ok := (fun _ => True)) (by (with_reducible repeat (first | apply Kd.R_alloc | apply Kd.R_drewN | apply Kd.R_drew)); exact Kd.R_mono HO179.out (fun _ hk => ⟨trivial, hk⟩)) hg hat); have n1_ := Aside0.mk (hb); have n2_ := Aside0.mk (ho); clear HO179; clear HB; clear HO_10; have HO179 := n0_; have HB := n1_; have HO188 := n2_; clear n0_ n1_ n2_; clear ho hb hg hat))
                        go_roundg kj9
                        case measure => have := HK1.out; have := HJ9.out; omega
                        case rel => exact ⟨(y186), (y177), (wrap64 (x13_1 + 1)), (by first | rfl | (simp; done) | (simp [*]; done)), H', ⟨by have := HK1.out; have := HJ9.out; omega⟩, ⟨by (with_reducible repeat (first | apply Kd.R_alloc | apply Kd.R_drewN | apply Kd.R_drew)); exact HO188.out⟩, ⟨by (with_reducible repeat (first | apply Kd.R_alloc | apply Kd.R_drewN | apply Kd.R_drew)); exact Kd.R_mono HO179.out (fun _ hk => hk.2)⟩, ⟨by repeat (first | (with_reducible first | exact HB.out | apply below_alloc | apply pw_below_drewN | apply below_drew1) | exact HB.out)⟩⟩
                      · rw [if_neg c36] at H
                        exact absurd H (by simp)
                · rw [if_neg c27] at H
                  exact absurd H (by simp)
        · rw [if_neg c9] at H
          have c9b0 : decide (x13_1 < (wrap64 ((wrap64 (300 + (wrap64 (Int.tmod a2 11)))) + (wrap64 (Int.tmod a3 11))))) = false := decide_eq_false c9
          clear c9
          have HC39 := Aside0.mk H
          clear H
          go_upto_region 16 with (fail)
          go_cut [82] (fun v82 wc => ∃ (kq : Nat) (x82_38 : Bool), v82 = .bool x82_38 ∧ Aside0 (grapevinelaw04_DiffLong.j2 kq t164 x10_1 x11_1 (wrap64 (Int.tmod a2 11)) x82_38 = some r) ∧ Aside0 (kq ≤ k1) ∧ Aside0 (Kd.R Kd.string 9 wc w.heap.size (fun k_ => some k_ ≠ (u11 : Value).ownBlock) u10 x10_1) ∧ Aside0 (Kd.R Kd.string 9 wc w.heap.size (fun k_ => some k_ ≠ (u10 : Value).ownBlock) u11 x11_1) ∧ Aside0 (Below w.heap.size w wc))
          case first =>
            have H := HC39.out
            clear HC39
            by_cases c40 : a0.size + a1.size ≤ 9223372036854775807
            · rw [if_pos c40] at H
              have c40b0 := eq_true c40
              have c40b1 : decide (a0.size + a1.size ≤ 9223372036854775807) = true := decide_eq_true c40
              try have c40b2 : (9223372036854775807 < a0.size + a1.size) = False := eq_false (Nat.not_lt.2 c40)
              by_cases c41 : (a0 ++ a1).size + 1 ≤ 9223372036854775807
              · rw [if_pos c41] at H
                have c41s0 : a0.size + a1.size + 1 ≤ 9223372036854775807 := by have h_ := c41; rw [ByteArray.size_append] at h_; exact h_
                try have c41s1 : (9223372036854775807 < a0.size + a1.size + 1) = False := eq_false (Nat.not_lt.2 c41s0)
                have c41b0 := eq_true c41
                have c41b1 : decide ((a0 ++ a1).size + 1 ≤ 9223372036854775807) = true := decide_eq_true c41
                try have c41b2 : (9223372036854775807 < (a0 ++ a1).size + 1) = False := eq_false (Nat.not_lt.2 c41)
                by_cases c42 : a0.toList = ((a0 ++ a1) ++ (⟨#[61]⟩ : ByteArray)).toList
                · rw [if_pos c42] at H
                  have c42b0 : (a0.toList == ((a0 ++ a1) ++ (⟨#[61]⟩ : ByteArray)).toList) = true := beq_iff_eq.mpr c42
                  have c42b1 : (a0.toList != ((a0 ++ a1) ++ (⟨#[61]⟩ : ByteArray)).toList) = false := bne_eq_false_iff_eq.mpr c42
                  clear c42
                  (first | rw [c42b0] | (simp only [i64_w, i32_w]; rw [c42b0]) | skip)
                  have H' := Aside0.mk H
                  clear H
                  go_wp2
                  go_meet
                  case rel => exact ⟨_, (true), (by first | rfl | (simp; done) | (simp [*]; done)), H', ⟨by have := HK1.out; first | omega | exact Nat.le_refl _⟩, ⟨by (with_reducible repeat (first | apply Kd.R_alloc | apply Kd.R_drewN | apply Kd.R_drew)); exact HO_10.out⟩, ⟨by (with_reducible repeat (first | apply Kd.R_alloc | apply Kd.R_drewN | apply Kd.R_drew)); exact HO_11.out⟩, ⟨by repeat (first | (with_reducible first | exact HB.out | apply below_alloc | apply pw_below_drewN | apply below_drew1) | exact HB.out)⟩⟩
                · rw [if_neg c42] at H
                  have c42b0 : (a0.toList == ((a0 ++ a1) ++ (⟨#[61]⟩ : ByteArray)).toList) = false := beq_eq_false_iff_ne.mpr c42
                  have c42b1 : (a0.toList != ((a0 ++ a1) ++ (⟨#[61]⟩ : ByteArray)).toList) = true := bne_iff_ne.mpr c42
                  (first | rw [c42b0] | (simp only [i64_w, i32_w]; rw [c42b0]) | skip)
                  have H' := Aside0.mk H
                  clear H
                  go_wp2
                  go_meet
                  case rel => exact ⟨_, ((a1.toList == ((a0 ++ a1) ++ (⟨#[61]⟩ : ByteArray)).toList)), (by first | rfl | (simp; done) | (simp [*]; done)), H', ⟨by have := HK1.out; first | omega | exact Nat.le_refl _⟩, ⟨by (with_reducible repeat (first | apply Kd.R_alloc | apply Kd.R_drewN | apply Kd.R_drew)); exact HO_10.out⟩, ⟨by (with_reducible repeat (first | apply Kd.R_alloc | apply Kd.R_drewN | apply Kd.R_drew)); exact HO_11.out⟩, ⟨by repeat (first | (with_reducible first | exact HB.out | apply below_alloc | apply pw_below_drewN | apply below_drew1) | exact HB.out)⟩⟩
              · rw [if_neg c41] at H
                exact absurd H (by simp)
            · rw [if_neg c40] at H
              exact absurd H (by simp)
          case rest =>
            clear HC39
            try clear c1
            try clear c2
            try clear p2
            try clear c3
            try clear c4
            try clear c6
            try clear c6b0
            try clear c6b1
            try clear p6
            try clear c9
            try clear c9b0
            try clear c11
            try clear c11b0
            try clear c12
            try clear c13
            try clear c13b0
            try clear c13b1
            try clear c13b2
            try clear c14
            try clear c14b0
            try clear c14b1
            try clear c14b2
            try clear c15
            try clear c16
            try clear c16b0
            try clear c17
            try clear c20
            try clear c20b0
            try clear c21
            try clear c24
            try clear c27
            try clear c28
            try clear c28b0
            try clear c29
            try clear c32
            try clear c32b0
            try clear c33
            try clear c36
            try clear c40
            try clear c40b0
            try clear c40b1
            try clear c40b2
            try clear c41
            try clear c41b0
            try clear c41b1
            try clear c41b2
            try clear c42
            try clear c42b0
            try clear c42b1
            try clear p2
            try clear p6
            obtain ⟨kq, x82_38, rfl, HA, HJ38, HO_10, HO_11, HB⟩ := hcut
            cases kq with
            | zero => exact absurd HA.out (by simp [grapevinelaw04_DiffLong.j2])
            | succ kj38 =>
              have H := HA.out
              clear HA
              simp only [grapevinelaw04_DiffLong.j2] at H
              by_cases c43 : x82_38 = true
              · subst c43
                have H1 : (some t164) = some r := by rw [if_pos rfl] at H; exact H
                clear H
                have H := H1
                clear H1
                obtain rfl := Option.some.inj H
                go_wp2
                go_ret
                exact ⟨by first | rfl | (simp [errW_none, errW_some] <;> rfl) | (simp [*, errW_none, errW_some] <;> rfl), by repeat (first | (with_reducible first | exact HB.out | apply below_alloc | apply pw_below_drewN | apply below_drew1) | exact HB.out)⟩
              · replace c43 := Bool.eq_false_iff.mpr c43
                subst c43
                have H1 : ((diff_Diff.f x10_1 x11_1).bind fun t189 => (if t164 = true then (if (t189.length : Int) = 1 then (if 0 < (t189.length : Int) then (if ((rd_T29 t189 0).f0) = (wrap64 (Int.tmod a2 11)) then (if ((rd_T29 t189 0).f1) = 300 then (if 0 ≤ (wrap64 (Int.tmod a2 11)) then (if (wrap64 (Int.tmod a2 11)) ≤ (wrap64 ((wrap64 (Int.tmod a2 11)) + 300)) then (if (wrap64 ((wrap64 (Int.tmod a2 11)) + 300)) ≤ (x11_1.length : Int) then ((grapevineref01_Texts.f kj38 ((rd_T29 t189 0).f2) ((x11_1.take ((wrap64 ((wrap64 (Int.tmod a2 11)) + 300)) : Int).toNat).drop ((wrap64 (Int.tmod a2 11)) : Int).toNat)).bind fun t199 => (some t199)) else (none)) else (none)) else (none)) else (some false)) else (some false)) else (none)) else (some false)) else (some false))) = some r := by rw [if_neg (show ¬ (false = true) by decide)] at H; exact H
                clear H
                have H := H1
                clear H1
                replace H := Option.bind_eq_some_iff.mp H
                obtain ⟨t189, A440, H⟩ := H
                replace H : (if t164 = true then (if (t189.length : Int) = 1 then (if 0 < (t189.length : Int) then (if ((rd_T29 t189 0).f0) = (wrap64 (Int.tmod a2 11)) then (if ((rd_T29 t189 0).f1) = 300 then (if 0 ≤ (wrap64 (Int.tmod a2 11)) then (if (wrap64 (Int.tmod a2 11)) ≤ (wrap64 ((wrap64 (Int.tmod a2 11)) + 300)) then (if (wrap64 ((wrap64 (Int.tmod a2 11)) + 300)) ≤ (x11_1.length : Int) then ((grapevineref01_Texts.f kj38 ((rd_T29 t189 0).f2) ((x11_1.take ((wrap64 ((wrap64 (Int.tmod a2 11)) + 300)) : Int).toNat).drop ((wrap64 (Int.tmod a2 11)) : Int).toNat)).bind fun t199 => (some t199)) else (none)) else (none)) else (none)) else (some false)) else (some false)) else (none)) else (some false)) else (some false)) = some r := H
                have A44 := Aside0.mk A440
                clear A440
                by_cases c45 : t164 = true
                · subst c45
                  have H1 : (if (t189.length : Int) = 1 then (if 0 < (t189.length : Int) then (if ((rd_T29 t189 0).f0) = (wrap64 (Int.tmod a2 11)) then (if ((rd_T29 t189 0).f1) = 300 then (if 0 ≤ (wrap64 (Int.tmod a2 11)) then (if (wrap64 (Int.tmod a2 11)) ≤ (wrap64 ((wrap64 (Int.tmod a2 11)) + 300)) then (if (wrap64 ((wrap64 (Int.tmod a2 11)) + 300)) ≤ (x11_1.length : Int) then ((grapevineref01_Texts.f kj38 ((rd_T29 t189 0).f2) ((x11_1.take ((wrap64 ((wrap64 (Int.tmod a2 11)) + 300)) : Int).toNat).drop ((wrap64 (Int.tmod a2 11)) : Int).toNat)).bind fun t199 => (some t199)) else (none)) else (none)) else (none)) else (some false)) else (some false)) else (none)) else (some false)) = some r := by rw [if_pos rfl] at H; exact H
                  clear H
                  have H := H1
                  clear H1
                  by_cases c46 : (t189.length : Int) = 1
                  · rw [if_pos c46] at H
                    have c46b0 : ((t189.length : Int) == 1) = true := beq_iff_eq.mpr c46
                    have c46b1 : ((t189.length : Int) != 1) = false := bne_eq_false_iff_eq.mpr c46
                    clear c46
                    by_cases c47 : 0 < (t189.length : Int)
                    · rw [if_pos c47] at H
                      have c47b0 : decide (0 < (t189.length : Int)) = true := decide_eq_true c47
                      have c47b1 : decide (0 < t189.length) = true := decide_eq_true (by omega)
                      clear c47
                      by_cases c48 : ((rd_T29 t189 0).f0) = (wrap64 (Int.tmod a2 11))
                      · rw [if_pos c48] at H
                        have c48b0 : (((rd_T29 t189 0).f0) == (wrap64 (Int.tmod a2 11))) = true := beq_iff_eq.mpr c48
                        have c48b1 : (((rd_T29 t189 0).f0) != (wrap64 (Int.tmod a2 11))) = false := bne_eq_false_iff_eq.mpr c48
                        clear c48
                        by_cases c49 : ((rd_T29 t189 0).f1) = 300
                        · rw [if_pos c49] at H
                          have c49b0 : (((rd_T29 t189 0).f1) == 300) = true := beq_iff_eq.mpr c49
                          have c49b1 : (((rd_T29 t189 0).f1) != 300) = false := bne_eq_false_iff_eq.mpr c49
                          clear c49
                          obtain ⟨ji50, hji50⟩ : ∃ j_ : Int, (wrap64 (Int.tmod a2 11)) = j_ := ⟨_, rfl⟩
                          replace H : (if 0 ≤ (ji50) then (if (ji50) ≤ (wrap64 ((ji50) + 300)) then (if (wrap64 ((ji50) + 300)) ≤ (x11_1.length : Int) then ((grapevineref01_Texts.f kj38 ((rd_T29 t189 0).f2) ((x11_1.take ((wrap64 ((ji50) + 300)) : Int).toNat).drop ((ji50) : Int).toNat)).bind fun t199 => (some t199)) else (none)) else (none)) else (none)) = some r := by first | (rw [hji50] at H; exact H) | (simp only [hji50] at H ⊢; exact H)
                          (try rw [hji50] at c9b0)
                          (try rw [hji50] at c48b0)
                          (try rw [hji50] at c48b1)
                          (try rw [hji50] at A44)
                          have hji50w : (IntKind.i64.wrap (Int.tmod a2 11)) = ji50 := (i64_w _).trans hji50
                          by_cases c51 : 0 ≤ (ji50)
                          · rw [if_pos c51] at H
                            have c51b0 := eq_true c51
                            have c51b1 : decide (0 ≤ (ji50)) = true := decide_eq_true c51
                            clear c51
                            by_cases c52 : (ji50) ≤ (wrap64 ((ji50) + 300))
                            · rw [if_pos c52] at H
                              have c52b0 := eq_true c52
                              have c52b1 : decide ((ji50) ≤ (wrap64 ((ji50) + 300))) = true := decide_eq_true c52
                              by_cases c53 : (wrap64 ((ji50) + 300)) ≤ (x11_1.length : Int)
                              · rw [if_pos c53] at H
                                have c53b0 := eq_true c53
                                have c53b1 : decide ((wrap64 ((ji50) + 300)) ≤ (x11_1.length : Int)) = true := decide_eq_true c53
                                obtain ⟨y195, hy195⟩ : ∃ y_ : List ByteArray, y_ = ((x11_1.take ((wrap64 ((ji50) + 300)) : Int).toNat).drop ((ji50) : Int).toNat) := ⟨_, rfl⟩
                                replace H : ((grapevineref01_Texts.f kj38 ((rd_T29 t189 0).f2) y195).bind fun t199 => (some t199)) = some r := by first | (rw [hy195]; with_reducible exact H) | (have H2_ := (Option.bind_some _ _).symm.trans H; rw [hy195]; with_reducible exact H2_) | (have H2_ := (Option.bind_some _ _).symm.trans H; with_reducible exact H2_) | with_reducible exact H | (rw [hy195]; exact H) | exact H
                                have Ny195 := Aside0.mk hy195
                                clear hy195
                                replace H := Option.bind_eq_some_iff.mp H
                                obtain ⟨t199, A540, H⟩ := H
                                replace H : (some t199) = some r := H
                                have A54 := Aside0.mk A540
                                clear A540
                                obtain rfl := Option.some.inj H
                                obtain ⟨Ao55, co55, eo55⟩ := Kd.R_slice HO_10.out
                                subst eo55
                                obtain ⟨Ao56, co56, eo56⟩ := Kd.R_slice HO_11.out
                                subst eo56
                                try go_wp2_with (first | ((with_reducible refine gate_callee (f := 15) rfl ?_); refine goesL_ (some 86) rfl rfl Try.func15 (by kernel_rfl) rfl #[.slice Ao55 x10_1.length co55, .slice Ao56 x11_1.length co56] rfl (by (try simp only [List.map_toArray, List.map_cons, List.map_nil]); first | done | rfl | (simp only [List.length_drop, List.length_take]; rfl)) ?_; (with_reducible refine (diff_Diff.calls _ _ x10_1 _ _ x11_1 t189 _ ?side1 ?side2 ?side3 ?side4 A44.out).mono ?_); (case side1 => repeat (first | exact (Kd.R_reads' HO_10.out).2.2 | (with_reducible refine Kd.C_alloc ?_ _) | (with_reducible refine Kd.C_drewN ?_ _) | (with_reducible refine Kd.C_drew ?_))); (case side2 => exact (Kd.R_reads' HO_10.out).2.1); (case side3 => repeat (first | exact (Kd.R_reads' HO_11.out).2.2 | (with_reducible refine Kd.C_alloc ?_ _) | (with_reducible refine Kd.C_drewN ?_ _) | (with_reducible refine Kd.C_drew ?_))); (case side4 => exact (Kd.R_reads' HO_11.out).2.1); rintro e w57 ⟨v190, rfl, ho0, hb⟩; refine ⟨_, rfl, ?_⟩; have n0_ := Aside0.mk (Kd.R_below (by (with_reducible repeat (first | apply Kd.R_alloc | apply Kd.R_drewN | apply Kd.R_drew)); exact HO_10.out) hb); have n1_ := Aside0.mk (Kd.R_below (by (with_reducible repeat (first | apply Kd.R_alloc | apply Kd.R_drewN | apply Kd.R_drew)); exact HO_11.out) hb); have n2_ := Aside0.mk (Kd.S_lower (Kd.S_new' (Kd.S_new' ho0 (Kd.R_lt (by (with_reducible repeat (first | apply Kd.R_alloc | apply Kd.R_drewN | apply Kd.R_drew)); exact HO_10.out))) (Kd.R_lt (by (with_reducible repeat (first | apply Kd.R_alloc | apply Kd.R_drewN | apply Kd.R_drew)); exact HO_11.out))) (below_size (by repeat (first | (with_reducible first | exact HB.out | apply below_alloc | apply pw_below_drewN | apply below_drew1) | exact HB.out)))); have n3_ := Aside0.mk (below_step (by repeat (first | (with_reducible first | exact HB.out | apply below_alloc | apply pw_below_drewN | apply below_drew1) | exact HB.out)) hb); clear HO_10; clear HO_11; clear HB; have HO_10 := n0_; have HO_11 := n1_; have HO191 := n2_; have HB := n3_; clear n0_ n1_ n2_ n3_; (try clear hb); (try clear hb2); (try clear hk); (try clear hi); (try clear ho0)))
                                have n0_ := Aside0.mk (Kd.R_drew HO_10.out)
                                have n1_ := Aside0.mk (Kd.R_drew HO_11.out)
                                have n2_ := Aside0.mk (Kd.S_drew HO191.out)
                                have n3_ := Aside0.mk (below_drew1 HB.out)
                                clear HO_10
                                clear HO_11
                                clear HO191
                                clear HB
                                have HO_10 := n0_
                                have HO_11 := n1_
                                have HO191 := n2_
                                have HB := n3_
                                clear n0_ n1_ n2_ n3_
                                obtain ⟨Ao59, co59, eo59⟩ := Kd.S_slice HO191.out
                                (first | subst eo59 | (injection eo59 with f1_ f2_ f3_; have f4_ := f1_.symm; have f5_ := f3_.symm; clear f1_ f2_ f3_; subst f4_; subst f5_))
                                have p192 : 0 ≤ (0 : Int) := (by omega)
                                have q192 : 0 < (t189.length : Int) := of_decide_eq_true (by first | (with_reducible assumption) | assumption)
                                obtain ⟨ad192, A192_2, c192_2, e192, hx192_0, hx192_1, hx192_2, hl192_2, hi192_2⟩ := at_T29 (Kd.S_reads' HO191.out).2.2 0 p192 q192
                                cases e192
                                obtain ⟨ce192, hce192, hMe192, hcc192⟩ := Kd.S_get HO191.out z29 0 p192 (by first | exact q192 | exact of_decide_eq_true (by first | (with_reducible assumption) | assumption) | (have e_ := (Kd.S_reads' HO191.out).1; omega))
                                obtain ⟨ve192_2, rfl, ge192_2⟩ := k29_openM hMe192
                                have hv192_2 := hcc192 2 _ rfl
                                rw [add_field _ _ 2 (by omega)] at hv192_2
                                replace hv192_2 := Option.some.inj (hv192_2.symm.trans hx192_2)
                                rw [hv192_2] at ge192_2
                                have HL192_2 := Aside0.mk (show Kd.R Kd.string 9 _ _ _ _ ((rd_T29 t189 0).f2) from ge192_2)
                                clear hv192_2 ge192_2
                                clear hcc192 hce192
                                have qi192 : (0 < t189.length) = True := eq_true (by omega)
                                (try rw [show ((0 : Int)).toNat = 0 from rfl] at hx192_0)
                                (try rw [show 0 * 3 = 0 from rfl] at hx192_0)
                                (try rw [Addr.add_zero'] at hx192_0)
                                (try rw [show ((0 : Int)).toNat = 0 from rfl] at hx192_1)
                                (try rw [show 0 * 3 = 0 from rfl] at hx192_1)
                                (try rw [Addr.add_zero'] at hx192_1)
                                (try rw [show ((0 : Int)).toNat = 0 from rfl] at hx192_2)
                                (try rw [show 0 * 3 = 0 from rfl] at hx192_2)
                                (try rw [Addr.add_zero'] at hx192_2)
                                have HR192_2 := Aside0.mk hi192_2
                                have HC192_2 := Aside0.mk hl192_2
                                clear hi192_2 hl192_2
                                replace p192 := eq_true p192
                                replace q192 := eq_true q192
                                have p193 : 0 ≤ (0 : Int) := (by omega)
                                have q193 : 0 < (t189.length : Int) := of_decide_eq_true (by first | (with_reducible assumption) | assumption)
                                obtain ⟨ad193, A193_2, c193_2, e193, hx193_0, hx193_1, hx193_2, hl193_2, hi193_2⟩ := at_T29 (Kd.S_reads' HO191.out).2.2 0 p193 q193
                                obtain rfl : ad192 = ad193 := (by injection e193)
                                obtain ⟨ce193, hce193, hMe193, hcc193⟩ := Kd.S_get HO191.out z29 0 p193 (by first | exact q193 | exact of_decide_eq_true (by first | (with_reducible assumption) | assumption) | (have e_ := (Kd.S_reads' HO191.out).1; omega))
                                obtain ⟨ve193_2, rfl, ge193_2⟩ := k29_openM hMe193
                                have hv193_2 := hcc193 2 _ rfl
                                rw [add_field _ _ 2 (by omega)] at hv193_2
                                replace hv193_2 := Option.some.inj (hv193_2.symm.trans hx193_2)
                                rw [hv193_2] at ge193_2
                                have HL193_2 := Aside0.mk (show Kd.R Kd.string 9 _ _ _ _ ((rd_T29 t189 0).f2) from ge193_2)
                                clear hv193_2 ge193_2
                                clear hcc193 hce193
                                have qi193 : (0 < t189.length) = True := eq_true (by omega)
                                (try rw [show ((0 : Int)).toNat = 0 from rfl] at hx193_0)
                                (try rw [show 0 * 3 = 0 from rfl] at hx193_0)
                                (try rw [Addr.add_zero'] at hx193_0)
                                (try rw [show ((0 : Int)).toNat = 0 from rfl] at hx193_1)
                                (try rw [show 0 * 3 = 0 from rfl] at hx193_1)
                                (try rw [Addr.add_zero'] at hx193_1)
                                (try rw [show ((0 : Int)).toNat = 0 from rfl] at hx193_2)
                                (try rw [show 0 * 3 = 0 from rfl] at hx193_2)
                                (try rw [Addr.add_zero'] at hx193_2)
                                have HR193_2 := Aside0.mk hi193_2
                                have HC193_2 := Aside0.mk hl193_2
                                clear hi193_2 hl193_2
                                replace p193 := eq_true p193
                                replace q193 := eq_true q193
                                have ea_ := Option.some.inj (hx192_2.symm.trans hx193_2)
                                injection ea_ with ea_ en_ ec_
                                subst ea_
                                subst ec_
                                clear en_
                                have p194 : 0 ≤ (0 : Int) := (by omega)
                                have q194 : 0 < (t189.length : Int) := of_decide_eq_true (by first | (with_reducible assumption) | assumption)
                                obtain ⟨ad194, A194_2, c194_2, e194, hx194_0, hx194_1, hx194_2, hl194_2, hi194_2⟩ := at_T29 (Kd.S_reads' HO191.out).2.2 0 p194 q194
                                obtain rfl : ad192 = ad194 := (by injection e194)
                                obtain ⟨ce194, hce194, hMe194, hcc194⟩ := Kd.S_get HO191.out z29 0 p194 (by first | exact q194 | exact of_decide_eq_true (by first | (with_reducible assumption) | assumption) | (have e_ := (Kd.S_reads' HO191.out).1; omega))
                                obtain ⟨ve194_2, rfl, ge194_2⟩ := k29_openM hMe194
                                have hv194_2 := hcc194 2 _ rfl
                                rw [add_field _ _ 2 (by omega)] at hv194_2
                                replace hv194_2 := Option.some.inj (hv194_2.symm.trans hx194_2)
                                rw [hv194_2] at ge194_2
                                have HL194_2 := Aside0.mk (show Kd.R Kd.string 9 _ _ _ _ ((rd_T29 t189 0).f2) from ge194_2)
                                clear hv194_2 ge194_2
                                clear hcc194 hce194
                                have qi194 : (0 < t189.length) = True := eq_true (by omega)
                                (try rw [show ((0 : Int)).toNat = 0 from rfl] at hx194_0)
                                (try rw [show 0 * 3 = 0 from rfl] at hx194_0)
                                (try rw [Addr.add_zero'] at hx194_0)
                                (try rw [show ((0 : Int)).toNat = 0 from rfl] at hx194_1)
                                (try rw [show 0 * 3 = 0 from rfl] at hx194_1)
                                (try rw [Addr.add_zero'] at hx194_1)
                                (try rw [show ((0 : Int)).toNat = 0 from rfl] at hx194_2)
                                (try rw [show 0 * 3 = 0 from rfl] at hx194_2)
                                (try rw [Addr.add_zero'] at hx194_2)
                                have HR194_2 := Aside0.mk hi194_2
                                have HC194_2 := Aside0.mk hl194_2
                                clear hi194_2 hl194_2
                                replace p194 := eq_true p194
                                replace q194 := eq_true q194
                                have ea_ := Option.some.inj (hx192_2.symm.trans hx194_2)
                                injection ea_ with ea_ en_ ec_
                                subst ea_
                                subst ec_
                                clear en_
                                have q60 : ((wrap64 ((ji50) + 300)) : Int) ≤ ((x11_1.length : Int) : Int) := of_decide_eq_true (by first | (with_reducible assumption) | assumption)
                                obtain ⟨i060, hi060, _, hsz60, _⟩ := info_parts info9
                                have hroom60 : x11_1.length ≤ co56 := (Kd.R_reads' HO_11.out).2.1
                                have hC60 : Kd.C Kd.string _ Ao56 x11_1.length x11_1 := (Kd.R_reads' HO_11.out).2.2
                                have ql60 : ((ji50) : Int) ≤ ((wrap64 ((ji50) + 300)) : Int) := of_decide_eq_true (by first | (with_reducible assumption) | assumption)
                                have q060 : (0 : Int) ≤ ((ji50) : Int) := of_decide_eq_true (by first | (with_reducible assumption) | assumption)
                                have hcut60 := cut_mid (P := Try.prog) 22 9 .i64 .i64 Try.underlying22 hi060 1 hsz60 Ao56 x11_1.length co56 (ji50) (wrap64 ((ji50) + 300)) q060 ql60 q60 hroom60
                                have hr60 := Kd.C_mid (lo := ((ji50) : Int).toNat) (hi := ((wrap64 ((ji50) + 300)) : Int).toNat) (c := co56) hC60 (by omega) (by omega) hroom60
                                obtain ⟨A60, hA60⟩ : ∃ A1, A1 = (if co56 = ((ji50) : Int).toNat then Ao56 else (Ao56 : Option Addr).map (·.add (((ji50) : Int).toNat * 1))) := ⟨_, rfl⟩
                                obtain ⟨c60, hc60⟩ : ∃ c1, c1 = co56 - ((ji50) : Int).toNat := ⟨_, rfl⟩
                                have hy60 : y195.length = ((wrap64 ((ji50) + 300)) : Int).toNat - ((ji50) : Int).toNat := (by rw [Ny195.out, List.length_drop, List.length_take] <;> omega)
                                rw [show ((x11_1).take ((wrap64 ((ji50) + 300)) : Int).toNat).drop ((ji50) : Int).toNat = y195 from Ny195.out.symm] at hr60
                                replace hr60 : Kd.C Kd.string _ A60 y195.length y195 := (by rw [hA60]; exact hr60)
                                rw [← hy60, ← hA60, ← hc60] at hcut60
                                have HR198 := Aside0.mk hr60
                                have HC198 := Aside0.mk (show y195.length ≤ c60 from by rw [hy60, hc60]; exact Nat.sub_le_sub_right (Nat.le_trans (by omega) hroom60) _)
                                clear hr60 hC60 hroom60 hi060 hsz60 hc60
                                have KY60 := Aside0.mk hy60
                                have KA60 := Aside0.mk hA60
                                clear hy60 hA60
                                have KL60 := Aside0.mk (show ((wrap64 ((ji50) + 300)) : Int).toNat ≤ x11_1.length from by omega)
                                have KM60 := Aside0.mk (show ((ji50) : Int).toNat ≤ ((wrap64 ((ji50) + 300)) : Int).toNat from by omega)
                                replace q60 := eq_true q60
                                refine start_ (n := 34) (S := fun w' => w'.cell? ad192 = some (.int .i64 ((rd_T29 t189 0).f0)) ∧ w'.cell? ⟨ad192.block, ad192.off + 1, none⟩ = some (.int .i64 ((rd_T29 t189 0).f1)) ∧ w'.cell? ⟨ad192.block, ad192.off + 2, none⟩ = some (.slice A192_2 ((rd_T29 t189 0).f2).length c192_2) ∧ w'.cell? ad192 = some (.int .i64 ((rd_T29 t189 0).f0)) ∧ w'.cell? ⟨ad192.block, ad192.off + 1, none⟩ = some (.int .i64 ((rd_T29 t189 0).f1)) ∧ w'.cell? ⟨ad192.block, ad192.off + 2, none⟩ = some (.slice A192_2 ((rd_T29 t189 0).f2).length c192_2) ∧ w'.cell? ad192 = some (.int .i64 ((rd_T29 t189 0).f0)) ∧ w'.cell? ⟨ad192.block, ad192.off + 1, none⟩ = some (.int .i64 ((rd_T29 t189 0).f1)) ∧ w'.cell? ⟨ad192.block, ad192.off + 2, none⟩ = some (.slice A192_2 ((rd_T29 t189 0).f2).length c192_2)) (ds := []) #[false, false, false, false, false, false, false, false, false, false, false, false, false, false, false, false, false, false, false, false, false, false, false, false, false, false, false, false, false, false, false, false, false, false] (by kernel_rfl) rfl rfl ⟨hx192_0, hx192_1, hx192_2, hx193_0, hx193_1, hx193_2, hx194_0, hx194_1, hx194_2⟩ (fun hHeld => ?_); refine with_tabW grapevinelaw04_DiffLong.tab19 grapevinelaw04_DiffLong.bits19 (fun HT_ HW_ => ?_)
                                generalize w57.drew = w58 at HO_10 HO_11 HO191 HB HL192_2 HL193_2 HL194_2 HR192_2 HR193_2 HR194_2 HR198 hx192_0 hx192_1 hx192_2 hx193_0 hx193_1 hx193_2 hx194_0 hx194_1 hx194_2 hHeld ⊢
                                refine pure_ (i := 0) (N := some 87) (v := ?_) (a' := ?_) #[true, false, false, false, false, false, false, false, false, false, false, false, false, false, false, false, false, false, false, false, false, false, false, false, false, false, false, false, false, false, false, false, false, false] rfl rfl (any_of HT_.out (by kernel_rfl)) (fun _ _ _ h => h) (Or.inl ⟨by rfl, ?_⟩) ?_ ?_
                                rotate_left
                                · intro w'
                                  go_simp
                                  with_reducible rfl
                                rotate_left
                                · simp only [Act.put, List.setIfInBounds_toArray, List.set_cons_zero, List.set_cons_succ, i64_w, i32_w]
                                  rfl
                                refine pure_ (i := 1) (N := some 88) (v := ?_) (a' := ?_) #[true, true, false, false, false, false, false, false, false, false, false, false, false, false, false, false, false, false, false, false, false, false, false, false, false, false, false, false, false, false, false, false, false, false] rfl rfl (any_of HT_.out (by kernel_rfl)) (fun _ _ _ h => h) (Or.inl ⟨by rfl, ?_⟩) ?_ ?_
                                rotate_left
                                · intro w'
                                  go_simp
                                  with_reducible rfl
                                rotate_left
                                · simp only [Act.put, List.setIfInBounds_toArray, List.set_cons_zero, List.set_cons_succ, i64_w, i32_w]
                                  rfl
                                refine pure_ (i := 2) (N := some 89) (v := ?_) (a' := ?_) #[true, true, true, false, false, false, false, false, false, false, false, false, false, false, false, false, false, false, false, false, false, false, false, false, false, false, false, false, false, false, false, false, false, false] rfl rfl (any_of HT_.out (by kernel_rfl)) (fun _ _ _ h => h) (Or.inl ⟨by rfl, ?_⟩) ?_ ?_
                                rotate_left
                                · intro w'
                                  go_simp
                                  with_reducible rfl
                                rotate_left
                                · simp only [Act.put, List.setIfInBounds_toArray, List.set_cons_zero, List.set_cons_succ, i64_w, i32_w]
                                  rfl
                                refine pure_ (i := 3) (N := some 90) (v := ?_) (a' := ?_) #[true, true, true, true, false, false, false, false, false, false, false, false, false, false, false, false, false, false, false, false, false, false, false, false, false, false, false, false, false, false, false, false, false, false] rfl rfl (any_of HT_.out (by kernel_rfl)) (fun _ _ _ h => h) (Or.inl ⟨by rfl, ?_⟩) ?_ ?_
                                rotate_left
                                · intro w'
                                  go_simp
                                  with_reducible rfl
                                rotate_left
                                · simp only [Act.put, List.setIfInBounds_toArray, List.set_cons_zero, List.set_cons_succ, i64_w, i32_w]
                                  rfl
                                refine pure_ (i := 4) (N := some 91) (v := ?_) (a' := ?_) #[true, true, true, true, true, false, false, false, false, false, false, false, false, false, false, false, false, false, false, false, false, false, false, false, false, false, false, false, false, false, false, false, false, false] rfl rfl (any_of HT_.out (by kernel_rfl)) (fun _ _ _ h => h) (Or.inl ⟨by rfl, ?_⟩) ?_ ?_
                                rotate_left
                                · intro w'
                                  go_simp
                                  with_reducible rfl
                                rotate_left
                                · simp only [Act.put, List.setIfInBounds_toArray, List.set_cons_zero, List.set_cons_succ, i64_w, i32_w]
                                  rfl
                                refine pure_ (i := 5) (N := some 92) (v := ?_) (a' := ?_) #[true, true, true, true, true, true, false, false, false, false, false, false, false, false, false, false, false, false, false, false, false, false, false, false, false, false, false, false, false, false, false, false, false, false] rfl rfl (any_of HT_.out (by kernel_rfl)) (fun _ _ _ h => h) (Or.inl ⟨by rfl, ?_⟩) ?_ ?_
                                rotate_left
                                · intro w'
                                  go_simp
                                  with_reducible rfl
                                rotate_left
                                · simp only [Act.put, List.setIfInBounds_toArray, List.set_cons_zero, List.set_cons_succ, i64_w, i32_w]
                                  rfl
                                refine pure_ (i := 6) (N := some 93) (v := ?_) (a' := ?_) #[true, true, true, true, true, true, true, false, false, false, false, false, false, false, false, false, false, false, false, false, false, false, false, false, false, false, false, false, false, false, false, false, false, false] rfl rfl (any_of HT_.out (by kernel_rfl)) (fun _ _ _ h => h) (Or.inl ⟨by rfl, ?_⟩) ?_ ?_
                                rotate_left
                                · intro w'
                                  go_simp
                                  with_reducible rfl
                                rotate_left
                                · simp only [Act.put, List.setIfInBounds_toArray, List.set_cons_zero, List.set_cons_succ, i64_w, i32_w]
                                  rfl
                                refine pure_ (i := 7) (N := some 94) (v := ?_) (a' := ?_) #[true, true, true, true, true, true, true, true, false, false, false, false, false, false, false, false, false, false, false, false, false, false, false, false, false, false, false, false, false, false, false, false, false, false] rfl rfl (any_of HT_.out (by kernel_rfl)) (fun _ _ _ h => h) (Or.inl ⟨by rfl, ?_⟩) ?_ ?_
                                rotate_left
                                · intro w'
                                  go_simp
                                  with_reducible rfl
                                rotate_left
                                · simp only [Act.put, List.setIfInBounds_toArray, List.set_cons_zero, List.set_cons_succ, i64_w, i32_w]
                                  rfl
                                refine pure_ (i := 8) (N := some 95) (v := ?_) (a' := ?_) #[true, true, true, true, true, true, true, true, true, false, false, false, false, false, false, false, false, false, false, false, false, false, false, false, false, false, false, false, false, false, false, false, false, false] rfl rfl (any_of HT_.out (by kernel_rfl)) (fun _ _ _ h => h) (Or.inl ⟨by rfl, ?_⟩) ?_ ?_
                                rotate_left
                                · intro w'
                                  go_simp
                                  with_reducible rfl
                                rotate_left
                                · simp only [Act.put, List.setIfInBounds_toArray, List.set_cons_zero, List.set_cons_succ, i64_w, i32_w]
                                  rfl
                                refine pure_ (i := 9) (N := some 96) (v := ?_) (a' := ?_) #[true, true, true, true, true, true, true, true, true, true, false, false, false, false, false, false, false, false, false, false, false, false, false, false, false, false, false, false, false, false, false, false, false, false] rfl rfl (any_of HT_.out (by kernel_rfl)) (fun _ _ _ h => h) (Or.inl ⟨by rfl, ?_⟩) ?_ ?_
                                rotate_left
                                · intro w'
                                  go_simp
                                  with_reducible rfl
                                rotate_left
                                · simp only [Act.put, List.setIfInBounds_toArray, List.set_cons_zero, List.set_cons_succ, i64_w, i32_w]
                                  rfl
                                refine pure_ (i := 11) (N := some 98) (v := ?_) (a' := ?_) #[true, true, true, true, true, true, true, true, true, true, false, true, false, false, false, false, false, false, false, false, false, false, false, false, false, false, false, false, false, false, false, false, false, false] rfl rfl (any_of HT_.out (by kernel_rfl)) (fun _ _ _ h => h) (Or.inl ⟨by rfl, ?_⟩) ?_ ?_
                                rotate_left
                                · intro w'
                                  go_simp
                                  with_reducible rfl
                                rotate_left
                                · simp only [Act.put, List.setIfInBounds_toArray, List.set_cons_zero, List.set_cons_succ, i64_w, i32_w]
                                  rfl
                                refine take_ (i := 10) (N := some 97) (v := ?_) (a' := ?_) #[true, true, true, true, true, true, true, true, true, true, true, true, false, false, false, false, false, false, false, false, false, false, false, false, false, false, false, false, false, false, false, false, false, false] rfl rfl (take_ofW HT_.out HW_.out (by kernel_rfl)) (fun _ _ _ h => h) (Or.inl ⟨by rfl, ?_⟩) hHeld ?_ ?_
                                rotate_left
                                · rintro w' ⟨s0, s1, s2, s3, s4, s5, s6, s7, s8⟩
                                  go_simp
                                  with_reducible rfl
                                rotate_left
                                · simp only [Act.put, List.setIfInBounds_toArray, List.set_cons_zero, List.set_cons_succ, i64_w, i32_w]
                                  rfl
                                refine pure_ (i := 12) (N := some 99) (v := ?_) (a' := ?_) #[true, true, true, true, true, true, true, true, true, true, true, true, true, false, false, false, false, false, false, false, false, false, false, false, false, false, false, false, false, false, false, false, false, false] rfl rfl (any_of HT_.out (by kernel_rfl)) (fun _ _ _ h => h) (Or.inl ⟨by rfl, ?_⟩) ?_ ?_
                                rotate_left
                                · intro w'
                                  go_simp
                                  with_reducible rfl
                                rotate_left
                                · simp only [Act.put, List.setIfInBounds_toArray, List.set_cons_zero, List.set_cons_succ, i64_w, i32_w]
                                  rfl
                                refine pure_ (i := 13) (N := some 100) (v := ?_) (a' := ?_) #[true, true, true, true, true, true, true, true, true, true, true, true, true, true, false, false, false, false, false, false, false, false, false, false, false, false, false, false, false, false, false, false, false, false] rfl rfl (any_of HT_.out (by kernel_rfl)) (fun _ _ _ h => h) (Or.inl ⟨by rfl, ?_⟩) ?_ ?_
                                rotate_left
                                · intro w'
                                  go_simp
                                  with_reducible rfl
                                rotate_left
                                · simp only [Act.put, List.setIfInBounds_toArray, List.set_cons_zero, List.set_cons_succ, i64_w, i32_w]
                                  rfl
                                refine pure_ (i := 14) (N := some 101) (v := ?_) (a' := ?_) #[true, true, true, true, true, true, true, true, true, true, true, true, true, true, true, false, false, false, false, false, false, false, false, false, false, false, false, false, false, false, false, false, false, false] rfl rfl (any_of HT_.out (by kernel_rfl)) (fun _ _ _ h => h) (Or.inl ⟨by rfl, ?_⟩) ?_ ?_
                                rotate_left
                                · intro w'
                                  go_simp
                                  with_reducible rfl
                                rotate_left
                                · simp only [Act.put, List.setIfInBounds_toArray, List.set_cons_zero, List.set_cons_succ, i64_w, i32_w]
                                  rfl
                                refine pure_ (i := 15) (N := some 102) (v := ?_) (a' := ?_) #[true, true, true, true, true, true, true, true, true, true, true, true, true, true, true, true, false, false, false, false, false, false, false, false, false, false, false, false, false, false, false, false, false, false] rfl rfl (any_of HT_.out (by kernel_rfl)) (fun _ _ _ h => h) (Or.inl ⟨by rfl, ?_⟩) ?_ ?_
                                rotate_left
                                · intro w'
                                  go_simp
                                  with_reducible rfl
                                rotate_left
                                · simp only [Act.put, List.setIfInBounds_toArray, List.set_cons_zero, List.set_cons_succ, i64_w, i32_w]
                                  rfl
                                refine pure_ (i := 16) (N := some 103) (v := ?_) (a' := ?_) #[true, true, true, true, true, true, true, true, true, true, true, true, true, true, true, true, true, false, false, false, false, false, false, false, false, false, false, false, false, false, false, false, false, false] rfl rfl (any_of HT_.out (by kernel_rfl)) (fun _ _ _ h => h) (Or.inl ⟨by rfl, ?_⟩) ?_ ?_
                                rotate_left
                                · intro w'
                                  go_simp
                                  with_reducible rfl
                                rotate_left
                                · simp only [Act.put, List.setIfInBounds_toArray, List.set_cons_zero, List.set_cons_succ, i64_w, i32_w]
                                  rfl
                                refine pure_ (i := 17) (N := some 104) (v := ?_) (a' := ?_) #[true, true, true, true, true, true, true, true, true, true, true, true, true, true, true, true, true, true, false, false, false, false, false, false, false, false, false, false, false, false, false, false, false, false] rfl rfl (any_of HT_.out (by kernel_rfl)) (fun _ _ _ h => h) (Or.inl ⟨by rfl, ?_⟩) ?_ ?_
                                rotate_left
                                · intro w'
                                  go_simp
                                  with_reducible rfl
                                rotate_left
                                · simp only [Act.put, List.setIfInBounds_toArray, List.set_cons_zero, List.set_cons_succ, i64_w, i32_w]
                                  rfl
                                refine take_ (i := 18) (N := some 105) (v := ?_) (a' := ?_) #[true, true, true, true, true, true, true, true, true, true, true, true, true, true, true, true, true, true, true, false, false, false, false, false, false, false, false, false, false, false, false, false, false, false] rfl rfl (take_ofW HT_.out HW_.out (by kernel_rfl)) (fun _ _ _ h => h) (Or.inl ⟨by rfl, ?_⟩) hHeld ?_ ?_
                                rotate_left
                                · rintro w' ⟨s0, s1, s2, s3, s4, s5, s6, s7, s8⟩
                                  go_simp
                                  with_reducible rfl
                                rotate_left
                                · simp only [Act.put, List.setIfInBounds_toArray, List.set_cons_zero, List.set_cons_succ, i64_w, i32_w]
                                  rfl
                                refine pure_ (i := 19) (N := some 106) (v := ?_) (a' := ?_) #[true, true, true, true, true, true, true, true, true, true, true, true, true, true, true, true, true, true, true, true, false, false, false, false, false, false, false, false, false, false, false, false, false, false] rfl rfl (any_of HT_.out (by kernel_rfl)) (fun _ _ _ h => h) (Or.inl ⟨by rfl, ?_⟩) ?_ ?_
                                rotate_left
                                · intro w'
                                  go_simp
                                  with_reducible rfl
                                rotate_left
                                · simp only [Act.put, List.setIfInBounds_toArray, List.set_cons_zero, List.set_cons_succ, i64_w, i32_w]
                                  rfl
                                refine pure_ (i := 20) (N := some 107) (v := ?_) (a' := ?_) #[true, true, true, true, true, true, true, true, true, true, true, true, true, true, true, true, true, true, true, true, true, false, false, false, false, false, false, false, false, false, false, false, false, false] rfl rfl (any_of HT_.out (by kernel_rfl)) (fun _ _ _ h => h) (Or.inl ⟨by rfl, ?_⟩) ?_ ?_
                                rotate_left
                                · intro w'
                                  go_simp
                                  with_reducible rfl
                                rotate_left
                                · simp only [Act.put, List.setIfInBounds_toArray, List.set_cons_zero, List.set_cons_succ, i64_w, i32_w]
                                  rfl
                                refine pure_ (i := 21) (N := some 108) (v := ?_) (a' := ?_) #[true, true, true, true, true, true, true, true, true, true, true, true, true, true, true, true, true, true, true, true, true, true, false, false, false, false, false, false, false, false, false, false, false, false] rfl rfl (any_of HT_.out (by kernel_rfl)) (fun _ _ _ h => h) (Or.inl ⟨by rfl, ?_⟩) ?_ ?_
                                rotate_left
                                · intro w'
                                  go_simp
                                  with_reducible rfl
                                rotate_left
                                · simp only [Act.put, List.setIfInBounds_toArray, List.set_cons_zero, List.set_cons_succ, i64_w, i32_w]
                                  rfl
                                refine pure_ (i := 22) (N := some 109) (v := ?_) (a' := ?_) #[true, true, true, true, true, true, true, true, true, true, true, true, true, true, true, true, true, true, true, true, true, true, true, false, false, false, false, false, false, false, false, false, false, false] rfl rfl (any_of HT_.out (by kernel_rfl)) (fun _ _ _ h => h) (Or.inl ⟨by rfl, ?_⟩) ?_ ?_
                                rotate_left
                                · intro w'
                                  go_simp
                                  with_reducible rfl
                                rotate_left
                                · simp only [Act.put, List.setIfInBounds_toArray, List.set_cons_zero, List.set_cons_succ, i64_w, i32_w]
                                  rfl
                                refine pure_ (i := 23) (N := some 110) (v := ?_) (a' := ?_) #[true, true, true, true, true, true, true, true, true, true, true, true, true, true, true, true, true, true, true, true, true, true, true, true, false, false, false, false, false, false, false, false, false, false] rfl rfl (any_of HT_.out (by kernel_rfl)) (fun _ _ _ h => h) (Or.inl ⟨by rfl, ?_⟩) ?_ ?_
                                rotate_left
                                · intro w'
                                  go_simp
                                  with_reducible rfl
                                rotate_left
                                · simp only [Act.put, List.setIfInBounds_toArray, List.set_cons_zero, List.set_cons_succ, i64_w, i32_w]
                                  rfl
                                refine pure_ (i := 24) (N := some 111) (v := ?_) (a' := ?_) #[true, true, true, true, true, true, true, true, true, true, true, true, true, true, true, true, true, true, true, true, true, true, true, true, true, false, false, false, false, false, false, false, false, false] rfl rfl (any_of HT_.out (by kernel_rfl)) (fun _ _ _ h => h) (Or.inl ⟨by rfl, ?_⟩) ?_ ?_
                                rotate_left
                                · intro w'
                                  go_simp
                                  with_reducible rfl
                                rotate_left
                                · simp only [Act.put, List.setIfInBounds_toArray, List.set_cons_zero, List.set_cons_succ, i64_w, i32_w]
                                  rfl
                                refine pure_ (i := 26) (N := some 113) (v := ?_) (a' := ?_) #[true, true, true, true, true, true, true, true, true, true, true, true, true, true, true, true, true, true, true, true, true, true, true, true, true, false, true, false, false, false, false, false, false, false] rfl rfl (any_of HT_.out (by kernel_rfl)) (fun _ _ _ h => h) (Or.inl ⟨by rfl, ?_⟩) ?_ ?_
                                rotate_left
                                · intro w'
                                  go_simp
                                  with_reducible rfl
                                rotate_left
                                · simp only [Act.put, List.setIfInBounds_toArray, List.set_cons_zero, List.set_cons_succ, i64_w, i32_w]
                                  rfl
                                refine pure_ (i := 27) (N := some 114) (v := ?_) (a' := ?_) #[true, true, true, true, true, true, true, true, true, true, true, true, true, true, true, true, true, true, true, true, true, true, true, true, true, false, true, true, false, false, false, false, false, false] rfl rfl (any_of HT_.out (by kernel_rfl)) (fun _ _ _ h => h) (Or.inl ⟨by rfl, ?_⟩) ?_ ?_
                                rotate_left
                                · intro w'
                                  go_simp
                                  with_reducible rfl
                                rotate_left
                                · simp only [Act.put, List.setIfInBounds_toArray, List.set_cons_zero, List.set_cons_succ, i64_w, i32_w]
                                  rfl
                                refine pure_ (i := 28) (N := some 115) (v := ?_) (a' := ?_) #[true, true, true, true, true, true, true, true, true, true, true, true, true, true, true, true, true, true, true, true, true, true, true, true, true, false, true, true, true, false, false, false, false, false] rfl rfl (any_of HT_.out (by kernel_rfl)) (fun _ _ _ h => h) (Or.inl ⟨by rfl, ?_⟩) ?_ ?_
                                rotate_left
                                · intro w'
                                  go_simp
                                  with_reducible rfl
                                rotate_left
                                · simp only [Act.put, List.setIfInBounds_toArray, List.set_cons_zero, List.set_cons_succ, i64_w, i32_w]
                                  rfl
                                refine pure_ (i := 29) (N := some 116) (v := ?_) (a' := ?_) #[true, true, true, true, true, true, true, true, true, true, true, true, true, true, true, true, true, true, true, true, true, true, true, true, true, false, true, true, true, true, false, false, false, false] rfl rfl (any_of HT_.out (by kernel_rfl)) (fun _ _ _ h => h) (Or.inl ⟨by rfl, ?_⟩) ?_ ?_
                                rotate_left
                                · intro w'
                                  go_simp
                                  with_reducible rfl
                                rotate_left
                                · simp only [Act.put, List.setIfInBounds_toArray, List.set_cons_zero, List.set_cons_succ, i64_w, i32_w]
                                  rfl
                                refine pure_ (i := 30) (N := some 117) (v := ?_) (a' := ?_) #[true, true, true, true, true, true, true, true, true, true, true, true, true, true, true, true, true, true, true, true, true, true, true, true, true, false, true, true, true, true, true, false, false, false] rfl rfl (any_of HT_.out (by kernel_rfl)) (fun _ _ _ h => h) (Or.inl ⟨by rfl, ?_⟩) ?_ ?_
                                rotate_left
                                · intro w'
                                  go_simp
                                  with_reducible rfl
                                rotate_left
                                · simp only [Act.put, List.setIfInBounds_toArray, List.set_cons_zero, List.set_cons_succ, i64_w, i32_w]
                                  rfl
                                refine take_ (i := 25) (N := some 112) (v := ?_) (a' := ?_) #[true, true, true, true, true, true, true, true, true, true, true, true, true, true, true, true, true, true, true, true, true, true, true, true, true, true, true, true, true, true, true, false, false, false] rfl rfl (take_ofW HT_.out HW_.out (by kernel_rfl)) (fun _ _ _ h => h) (Or.inl ⟨by rfl, ?_⟩) hHeld ?_ ?_
                                rotate_left
                                · rintro w' ⟨s0, s1, s2, s3, s4, s5, s6, s7, s8⟩
                                  go_simp
                                  with_reducible rfl
                                rotate_left
                                · simp only [Act.put, List.setIfInBounds_toArray, List.set_cons_zero, List.set_cons_succ, i64_w, i32_w]
                                  rfl
                                refine one_ (i := 31) (N := some 118) #[true, true, true, true, true, true, true, true, true, true, true, true, true, true, true, true, true, true, true, true, true, true, true, true, true, true, true, true, true, true, true, true, false, false] rfl rfl (one_of HT_.out (by kernel_rfl)) (by decide) (fun K hK => ?_)
                                refine goes_ Try.func17 (by kernel_rfl) rfl #[.slice A192_2 ((rd_T29 t189 0).f2).length c192_2, .slice A60 y195.length c60] (by rfl) rfl rfl (by (try simp only [List.map_toArray, List.map_cons, List.map_nil]); first | done | rfl | (simp only [List.length_drop, List.length_take]; rfl)) ?_
                                with_reducible refine (grapevineref01_Texts.calls kj38 _ _ ((rd_T29 t189 0).f2) _ _ y195 t199 _ ?side1 ?side2 ?side3 ?side4 A54.out).mono ?_
                                (case side1 => repeat (first | exact (by repeat (first | (with_reducible exact HR194_2.out) | (with_reducible refine Kd.C_alloc ?_ _) | (with_reducible refine Kd.C_drewN ?_ _) | (with_reducible refine Kd.C_drew ?_) | exact HR194_2.out)) | (with_reducible refine Kd.C_alloc ?_ _) | (with_reducible refine Kd.C_drewN ?_ _) | (with_reducible refine Kd.C_drew ?_)))
                                (case side2 => exact HC194_2.out)
                                (case side3 => repeat (first | exact (by repeat (first | (with_reducible exact HR198.out) | (with_reducible refine Kd.C_alloc ?_ _) | (with_reducible refine Kd.C_drewN ?_ _) | (with_reducible refine Kd.C_drew ?_) | exact HR198.out)) | (with_reducible refine Kd.C_alloc ?_ _) | (with_reducible refine Kd.C_drewN ?_ _) | (with_reducible refine Kd.C_drew ?_)))
                                (case side4 => exact HC198.out)
                                rintro e w' ⟨rfl, ⟨nd, rfl⟩⟩
                                refine ⟨_, rfl, ?_⟩
                                refine hK.out _ _ ⟨hHeld.1, hHeld.2.1, hHeld.2.2.1, hHeld.2.2.2.1, hHeld.2.2.2.2.1, hHeld.2.2.2.2.2.1, hHeld.2.2.2.2.2.2.1, hHeld.2.2.2.2.2.2.2.1, hHeld.2.2.2.2.2.2.2.2⟩ (fun hHeld => ?_)
                                clear hK K
                                refine norm_ (a' := ?_) ?_ ?_
                                rotate_left
                                · show Act.put _ (some 118) _ = _
                                  simp only [Act.put, List.setIfInBounds_toArray, List.set_cons_zero, List.set_cons_succ, i64_w, i32_w]
                                  rfl
                                refine pure_ (i := 32) (N := some 119) (v := ?_) (a' := ?_) #[true, true, true, true, true, true, true, true, true, true, true, true, true, true, true, true, true, true, true, true, true, true, true, true, true, true, true, true, true, true, true, true, true, false] rfl rfl (any_of HT_.out (by kernel_rfl)) (fun _ _ _ h => h) (Or.inl ⟨by rfl, ?_⟩) ?_ ?_
                                rotate_left
                                · intro w'
                                  go_simp
                                  with_reducible rfl
                                rotate_left
                                · simp only [Act.put, List.setIfInBounds_toArray, List.set_cons_zero, List.set_cons_succ, i64_w, i32_w]
                                  rfl
                                refine pure_ (i := 33) (N := some 8) (v := ?_) (a' := ?_) #[true, true, true, true, true, true, true, true, true, true, true, true, true, true, true, true, true, true, true, true, true, true, true, true, true, true, true, true, true, true, true, true, true, true] rfl rfl (any_of HT_.out (by kernel_rfl)) (fun _ _ _ h => h) (Or.inl ⟨by rfl, ?_⟩) ?_ ?_
                                rotate_left
                                · intro w'
                                  go_simp
                                  with_reducible rfl
                                rotate_left
                                · simp only [Act.put, List.setIfInBounds_toArray, List.set_cons_zero, List.set_cons_succ, i64_w, i32_w]
                                  rfl
                                refine done_ (done_of HT_.out (by kernel_rfl)) ?_
                                try go_wp2
                                go_ret
                                exact ⟨by first | rfl | (simp [errW_none, errW_some] <;> rfl) | (simp only [← hji50]; first | rfl | (simp [errW_none, errW_some] <;> rfl)) | (simp [*, errW_none, errW_some] <;> rfl), by repeat (first | (with_reducible first | exact HB.out | apply below_alloc | apply pw_below_drewN | apply below_drew1) | exact HB.out)⟩
                              · rw [if_neg c53] at H
                                exact absurd H (by simp)
                            · rw [if_neg c52] at H
                              exact absurd H (by simp)
                          · rw [if_neg c51] at H
                            exact absurd H (by simp)
                        · rw [if_neg c49] at H
                          have c49b0 : (((rd_T29 t189 0).f1) == 300) = false := beq_eq_false_iff_ne.mpr c49
                          have c49b1 : (((rd_T29 t189 0).f1) != 300) = true := bne_iff_ne.mpr c49
                          exact absurd (H.trans (congrArg some hrt_.out)) (by simp)
                      · rw [if_neg c48] at H
                        have c48b0 : (((rd_T29 t189 0).f0) == (wrap64 (Int.tmod a2 11))) = false := beq_eq_false_iff_ne.mpr c48
                        have c48b1 : (((rd_T29 t189 0).f0) != (wrap64 (Int.tmod a2 11))) = true := bne_iff_ne.mpr c48
                        exact absurd (H.trans (congrArg some hrt_.out)) (by simp)
                    · rw [if_neg c47] at H
                      exact absurd H (by simp)
                  · rw [if_neg c46] at H
                    have c46b0 : ((t189.length : Int) == 1) = false := beq_eq_false_iff_ne.mpr c46
                    have c46b1 : ((t189.length : Int) != 1) = true := bne_iff_ne.mpr c46
                    exact absurd (H.trans (congrArg some hrt_.out)) (by simp)
                · replace c45 := Bool.eq_false_iff.mpr c45
                  subst c45
                  have H1 : (some false) = some r := by rw [if_neg (show ¬ (false = true) by decide)] at H; exact H
                  clear H
                  have H := H1
                  clear H1
                  exact absurd (H.trans (congrArg some hrt_.out)) (by simp)

/-- THE ONE PURE STATEMENT of grapevinelaw04_DiffLong: yours. -/
def grapevinelaw04_DiffLong.Pure : Prop := ∀ (a0 : ByteArray) (a1 : ByteArray) (a2 : Int) (a3 : Int), a0.size ≤ 140737488351232 → a1.size ≤ 140737488351232 → (Lit.int .u8 a2).wf = true → (Lit.int .u8 a3).wf = true → ∃ k, grapevinelaw04_DiffLong.f k a0 a1 a2 a3 = some true
theorem grapevinelaw04_DiffLong.walk (P : grapevinelaw04_DiffLong.Pure) (a0 : ByteArray) (a1 : ByteArray) (a2 : Int) (a3 : Int) (w : World) (w0 : a0.size ≤ 140737488351232) (w1 : a1.size ≤ 140737488351232) (w2 : (Lit.int .u8 a2).wf = true) (w3 : (Lit.int .u8 a3).wf = true) :
    Calls Try.prog 4 #[.string a0, .string a1, .int .u8 a2, .int .u8 a3] w fun e w' => e = .returned (.bool true) ∧ Below w.heap.size w w' := by
  obtain ⟨k, h⟩ := P a0 a1 a2 a3 w0 w1 w2 w3
  refine (grapevinelaw04_DiffLong.calls k a0 a1 a2 a3 true w ⟨rfl⟩ h).mono ?_
  rintro e w' ⟨rfl, hd⟩
  exact ⟨rfl, hd⟩

end Go.Proofs.Ytebfopcihjadpaa.Pr
