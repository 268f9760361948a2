-- written by a program of this session's (a turned copy of the kit's printer); Lean checks it
import Derived.Test.YtebfopcihjadpaaD0
import Derived.Test.YtebfopcihjadpaaGAwake
import Derived.Test.YtebfopcihjadpaaGDiff
import Derived.Test.YtebfopcihjadpaaD1a
import Derived.Test.YtebfopcihjadpaaD1c
import Derived.Test.YtebfopcihjadpaaD3
namespace Go.Proofs.Ytebfopcihjadpaa.Pr
open Go.RowKit Go.Proofs.YtebfopcihjadpaaW.PrintWords Go.Proofs.YtebfopcihjadpaaW.PrintLast Go.Proofs.YtebfopcihjadpaaW.PrintMore
attribute [local go_sem] max2_int min2_int max_two min_two max_three min_three max_four min_four   -- for this text's walks alone
set_option linter.unusedVariables false
set_option linter.unusedSimpArgs false

/-! ### grapevinelaw04_DiffLeast: function 8 -/
def grapevinelaw04_DiffLeast.j0 : Nat → List ByteArray → List ByteArray → Bool → Bool → Option (Bool)
  | 0, _, _, _, _ => none
  | k + 1, x0, x1, x5, x16 => if x16 = true then (some x5) else ((diff_Diff.f x0 x1).bind fun t290 => ((grapevineref04_Common.f k x0 x1).bind fun t293 => (if x5 = true then ((diff_Size.f k t290).bind fun t294 => (if t294 = (wrap64 ((wrap64 ((x0.length : Int) + (x1.length : Int))) - (wrap64 (2 * t293)))) then ((grapevineref01_Texts.f k x0 x1).bind fun t295 => (if (((t290.length : Int) == 0) == t295) = true then ((diff_Diff.f x0 x0).bind fun t296 => (some ((t296.length : Int) == 0))) else (some false))) else (some false))) else (some false))))
def grapevinelaw04_DiffLeast.f (k : Nat) (l0 : List ByteArray) (l1 : List ByteArray) : Option (Bool) := (grapevinelaw04_awake.f).bind fun t289 => (if (l0.length : Int) > 24 then (grapevinelaw04_DiffLeast.j0 k l0 l1 t289 true) else (grapevinelaw04_DiffLeast.j0 k l0 l1 t289 (decide ((l1.length : Int) > 24))))
theorem grapevinelaw04_DiffLeast.mono_l : ∀ k, (∀ y0 y1 y2 y3, LeO (grapevinelaw04_DiffLeast.j0 k y0 y1 y2 y3) (grapevinelaw04_DiffLeast.j0 (k + 1) y0 y1 y2 y3))
  | 0 => fun _ _ _ _ r h => by simp [grapevinelaw04_DiffLeast.j0] at h
  | k + 1 => by
    have ih0 := grapevinelaw04_DiffLeast.mono_l k
    · intro y0 y1 y2 y3
      unfold grapevinelaw04_DiffLeast.j0
      repeat' first
      | (with_reducible exact ih0 _ _ _ _)
      | (with_reducible exact diff_Size.mono _ _)
      | (with_reducible exact grapevineref01_Texts.mono _ _ _)
      | (with_reducible exact grapevineref04_Common.mono _ _ _)
      | (with_reducible exact LeO.refl _)
      | (with_reducible exact LeO.none _)
      | (with_reducible refine LeO.ite ?_ ?_)
      | (with_reducible refine LeO.bind ?_ (fun _ => ?_))
      | exact ih0 _ _ _ _
      | exact diff_Size.mono _ _
      | exact grapevineref01_Texts.mono _ _ _
      | exact grapevineref04_Common.mono _ _ _
      | exact LeO.none _
      | refine LeO.ite ?_ ?_
      | refine LeO.bind ?_ (fun _ => ?_)
theorem grapevinelaw04_DiffLeast.mono : ∀ a0 a1 k, LeO (grapevinelaw04_DiffLeast.f k a0 a1) (grapevinelaw04_DiffLeast.f (k + 1) a0 a1) := by
  intro a0 a1 k
  have ih0 := grapevinelaw04_DiffLeast.mono_l k
  unfold grapevinelaw04_DiffLeast.f
  repeat' first
      | (with_reducible exact ih0 _ _ _ _)
      | (with_reducible exact diff_Size.mono _ _)
      | (with_reducible exact grapevineref01_Texts.mono _ _ _)
      | (with_reducible exact grapevineref04_Common.mono _ _ _)
      | (with_reducible exact LeO.refl _)
      | (with_reducible exact LeO.none _)
      | (with_reducible refine LeO.ite ?_ ?_)
      | (with_reducible refine LeO.bind ?_ (fun _ => ?_))
      | exact ih0 _ _ _ _
      | exact diff_Size.mono _ _
      | exact grapevineref01_Texts.mono _ _ _
      | exact grapevineref04_Common.mono _ _ _
      | exact LeO.none _
      | refine LeO.ite ?_ ?_
      | refine LeO.bind ?_ (fun _ => ?_)
set_option maxHeartbeats 8000000 in
set_option maxRecDepth 100000 in
theorem grapevinelaw04_DiffLeast.calls (k : Nat) (A0 : Option Addr) (c0 : Nat) (l0 : List ByteArray) (A1 : Option Addr) (c1 : Nat) (l1 : List ByteArray) (r : Bool) (w : World) (hrt_ : Aside0 (r = true)) (hr0 : Kd.C Kd.string w A0 l0.length l0) (hc0 : l0.length ≤ c0) (hr1 : Kd.C Kd.string w A1 l1.length l1) (hc1 : l1.length ≤ c1) (h : grapevinelaw04_DiffLeast.f k l0 l1 = some r) :
    Calls Try.prog 8 #[.slice A0 l0.length c0, .slice A1 l1.length c1] w fun e w' => e = .returned (.bool r) ∧ Below w.heap.size w w' := by
  have HR0 := Aside0.mk hr0
  have HC0 := Aside0.mk hc0
  clear hr0 hc0
  have HR1 := Aside0.mk hr1
  have HC1 := Aside0.mk hc1
  clear hr1 hc1
  have HB := Aside0.mk (Below.refl w.heap.size w)
  have H : ((grapevinelaw04_awake.f).bind fun t289 => (if (l0.length : Int) > 24 then (grapevinelaw04_DiffLeast.j0 k l0 l1 t289 true) else (grapevinelaw04_DiffLeast.j0 k l0 l1 t289 (decide ((l1.length : Int) > 24))))) = some r := h
  clear h
  replace H := Option.bind_eq_some_iff.mp H
  obtain ⟨t289, A30, H⟩ := H
  replace H : (if (l0.length : Int) > 24 then (grapevinelaw04_DiffLeast.j0 k l0 l1 t289 true) else (grapevinelaw04_DiffLeast.j0 k l0 l1 t289 (decide ((l1.length : Int) > 24)))) = some r := H
  have A3 := Aside0.mk A30
  clear A30
  have HC4 := Aside0.mk H
  clear H
  go_enter Try.func8, Try.ntmps8
  go_upto_region 2 with (first | ((with_reducible refine gate_callee (f := 13) rfl ?_); refine goesL_ (some 8) rfl rfl Try.func13 (by kernel_rfl) rfl #[] rfl (by (try simp only [List.map_toArray, List.map_cons, List.map_nil]); first | done | rfl | (simp only [List.length_drop, List.length_take]; rfl)) ?_; (with_reducible refine (grapevinelaw04_awake.calls  t289 _ A3.out).mono ?_); rintro e w5 ⟨rfl, hb⟩; refine ⟨_, rfl, ?_⟩; have n0_ := Aside0.mk (below_step (by repeat (first | (with_reducible first | exact HB.out | apply below_alloc | apply pw_below_drewN | apply below_drew1) | exact HB.out)) hb); clear HB; have HB := n0_; clear n0_; (try clear hb); (try clear hb2); (try clear hk); (try clear hi)))
  (try simp only [Act.put, List.setIfInBounds_toArray, List.set_cons_zero, List.set_cons_succ])
  go_cut [16] (fun v16 wc => ∃ (kq : Nat) (x16_3 : Bool), v16 = .bool x16_3 ∧ Aside0 (grapevinelaw04_DiffLeast.j0 kq l0 l1 t289 x16_3 = some r) ∧ Aside0 (kq ≤ k) ∧ Aside0 (Below w.heap.size w wc))
  case first =>
    have H := HC4.out
    clear HC4
    by_cases c6 : (l0.length : Int) > 24
    · rw [if_pos c6] at H
      have c6b0 : decide (24 < (l0.length : Int)) = true := decide_eq_true c6
      have c6b1 : decide (24 < l0.length) = true := decide_eq_true (by omega)
      clear c6
      (first | rw [c6b0] | (simp only [i64_w, i32_w]; rw [c6b0]) | skip)
      have H' := Aside0.mk H
      clear H
      go_wp2
      go_meet
      case rel => exact ⟨_, (true), (by first | rfl | (simp; done) | (simp [*]; done)), H', ⟨by first | omega | exact Nat.le_refl _⟩, ⟨by repeat (first | (with_reducible first | exact HB.out | apply below_alloc | apply pw_below_drewN | apply below_drew1) | exact HB.out)⟩⟩
    · rw [if_neg c6] at H
      have c6b0 : decide (24 < (l0.length : Int)) = false := decide_eq_false c6
      have c6b1 : decide (24 < l0.length) = false := decide_eq_false (by omega)
      clear c6
      (first | rw [c6b0] | (simp only [i64_w, i32_w]; rw [c6b0]) | skip)
      have H' := Aside0.mk H
      clear H
      go_wp2
      go_meet
      case rel => exact ⟨_, (decide ((l1.length : Int) > 24)), (by first | rfl | (simp; done) | (simp [*]; done)), H', ⟨by first | omega | exact Nat.le_refl _⟩, ⟨by repeat (first | (with_reducible first | exact HB.out | apply below_alloc | apply pw_below_drewN | apply below_drew1) | exact HB.out)⟩⟩
  case rest =>
    clear HC4
    try clear c1
    try clear p2
    try clear c6
    try clear c6b0
    try clear c6b1
    obtain ⟨kq, x16_3, rfl, HA, HJ3, HB⟩ := hcut
    cases kq with
    | zero => exact absurd HA.out (by simp [grapevinelaw04_DiffLeast.j0])
    | succ kj3 =>
      have H := HA.out
      clear HA
      simp only [grapevinelaw04_DiffLeast.j0] at H
      by_cases c7 : x16_3 = true
      · subst c7
        have H1 : (some t289) = some r := by rw [if_pos rfl] at H; exact H
        clear H
        have H := H1
        clear H1
        obtain rfl := Option.some.inj H
        go_wp2
        go_ret
        exact ⟨by first | rfl | (simp [errW_none, errW_some] <;> rfl) | (simp [*, errW_none, errW_some] <;> rfl), by repeat (first | (with_reducible first | exact HB.out | apply below_alloc | apply pw_below_drewN | apply below_drew1) | exact HB.out)⟩
      · replace c7 := Bool.eq_false_iff.mpr c7
        subst c7
        have H1 : ((diff_Diff.f l0 l1).bind fun t290 => ((grapevineref04_Common.f kj3 l0 l1).bind fun t293 => (if t289 = true then ((diff_Size.f kj3 t290).bind fun t294 => (if t294 = (wrap64 ((wrap64 ((l0.length : Int) + (l1.length : Int))) - (wrap64 (2 * t293)))) then ((grapevineref01_Texts.f kj3 l0 l1).bind fun t295 => (if (((t290.length : Int) == 0) == t295) = true then ((diff_Diff.f l0 l0).bind fun t296 => (some ((t296.length : Int) == 0))) else (some false))) else (some false))) else (some false)))) = some r := by rw [if_neg (show ¬ (false = true) by decide)] at H; exact H
        clear H
        have H := H1
        clear H1
        replace H := Option.bind_eq_some_iff.mp H
        obtain ⟨t290, A80, H⟩ := H
        replace H : ((grapevineref04_Common.f kj3 l0 l1).bind fun t293 => (if t289 = true then ((diff_Size.f kj3 t290).bind fun t294 => (if t294 = (wrap64 ((wrap64 ((l0.length : Int) + (l1.length : Int))) - (wrap64 (2 * t293)))) then ((grapevineref01_Texts.f kj3 l0 l1).bind fun t295 => (if (((t290.length : Int) == 0) == t295) = true then ((diff_Diff.f l0 l0).bind fun t296 => (some ((t296.length : Int) == 0))) else (some false))) else (some false))) else (some false))) = some r := H
        have A8 := Aside0.mk A80
        clear A80
        replace H := Option.bind_eq_some_iff.mp H
        obtain ⟨t293, A90, H⟩ := H
        replace H : (if t289 = true then ((diff_Size.f kj3 t290).bind fun t294 => (if t294 = (wrap64 ((wrap64 ((l0.length : Int) + (l1.length : Int))) - (wrap64 (2 * t293)))) then ((grapevineref01_Texts.f kj3 l0 l1).bind fun t295 => (if (((t290.length : Int) == 0) == t295) = true then ((diff_Diff.f l0 l0).bind fun t296 => (some ((t296.length : Int) == 0))) else (some false))) else (some false))) else (some false)) = some r := H
        have A9 := Aside0.mk A90
        clear A90
        by_cases c10 : t289 = true
        · subst c10
          have H1 : ((diff_Size.f kj3 t290).bind fun t294 => (if t294 = (wrap64 ((wrap64 ((l0.length : Int) + (l1.length : Int))) - (wrap64 (2 * t293)))) then ((grapevineref01_Texts.f kj3 l0 l1).bind fun t295 => (if (((t290.length : Int) == 0) == t295) = true then ((diff_Diff.f l0 l0).bind fun t296 => (some ((t296.length : Int) == 0))) else (some false))) else (some false))) = some r := by rw [if_pos rfl] at H; exact H
          clear H
          have H := H1
          clear H1
          replace H := Option.bind_eq_some_iff.mp H
          obtain ⟨t294, A110, H⟩ := H
          replace H : (if t294 = (wrap64 ((wrap64 ((l0.length : Int) + (l1.length : Int))) - (wrap64 (2 * t293)))) then ((grapevineref01_Texts.f kj3 l0 l1).bind fun t295 => (if (((t290.length : Int) == 0) == t295) = true then ((diff_Diff.f l0 l0).bind fun t296 => (some ((t296.length : Int) == 0))) else (some false))) else (some false)) = some r := H
          have A11 := Aside0.mk A110
          clear A110
          by_cases c12 : t294 = (wrap64 ((wrap64 ((l0.length : Int) + (l1.length : Int))) - (wrap64 (2 * t293))))
          · rw [if_pos c12] at H
            have c12b0 : (t294 == (wrap64 ((wrap64 ((l0.length : Int) + (l1.length : Int))) - (wrap64 (2 * t293))))) = true := beq_iff_eq.mpr c12
            have c12b1 : (t294 != (wrap64 ((wrap64 ((l0.length : Int) + (l1.length : Int))) - (wrap64 (2 * t293))))) = false := bne_eq_false_iff_eq.mpr c12
            clear c12
            replace H := Option.bind_eq_some_iff.mp H
            obtain ⟨t295, A130, H⟩ := H
            replace H : (if (((t290.length : Int) == 0) == t295) = true then ((diff_Diff.f l0 l0).bind fun t296 => (some ((t296.length : Int) == 0))) else (some false)) = some r := H
            have A13 := Aside0.mk A130
            clear A130
            by_cases c14 : (((t290.length : Int) == 0) == t295) = true
            · rw [if_pos c14] at H
              have c14b0 : (((t290.length : Int) == 0) == t295) = true := c14
              (try (have c14b1 : decide (((t290.length : Int) == 0) = t295) = true := by simpa using c14))
              (try (have c14b2 : (((t290.length : Int) == 0) == t295) = true := by simpa using c14))
              clear c14
              replace H := Option.bind_eq_some_iff.mp H
              obtain ⟨t296, A150, H⟩ := H
              replace H : (some ((t296.length : Int) == 0)) = some r := H
              have A15 := Aside0.mk A150
              clear A150
              obtain rfl := Option.some.inj H
              go_wp2_with (first | ((with_reducible refine gate_callee (f := 15) rfl ?_); refine goesL_ (some 20) rfl rfl Try.func15 (by kernel_rfl) rfl #[.slice A0 l0.length c0, .slice A1 l1.length c1] rfl (by (try simp only [List.map_toArray, List.map_cons, List.map_nil]); first | done | rfl | (simp only [List.length_drop, List.length_take]; rfl)) ?_; (with_reducible refine (diff_Diff.calls _ _ l0 _ _ l1 t290 _ ?side1 ?side2 ?side3 ?side4 A8.out).mono ?_); (case side1 => repeat (first | exact (Kd.C_below HR0.out HB.out) | (with_reducible refine Kd.C_alloc ?_ _) | (with_reducible refine Kd.C_drewN ?_ _) | (with_reducible refine Kd.C_drew ?_))); (case side2 => exact HC0.out); (case side3 => repeat (first | exact (Kd.C_below HR1.out HB.out) | (with_reducible refine Kd.C_alloc ?_ _) | (with_reducible refine Kd.C_drewN ?_ _) | (with_reducible refine Kd.C_drew ?_))); (case side4 => exact HC1.out); rintro e w16 ⟨v291, rfl, ho0, hb⟩; refine ⟨_, rfl, ?_⟩; have n0_ := Aside0.mk (Kd.S_lower ho0 (below_size (by repeat (first | (with_reducible first | exact HB.out | apply below_alloc | apply pw_below_drewN | apply below_drew1) | exact HB.out)))); have n1_ := Aside0.mk (below_step (by repeat (first | (with_reducible first | exact HB.out | apply below_alloc | apply pw_below_drewN | apply below_drew1) | exact HB.out)) hb); clear HB; have HO292 := n0_; have HB := n1_; clear n0_ n1_; (try clear hb); (try clear hb2); (try clear hk); (try clear hi); (try clear ho0)) | ((with_reducible refine gate_callee (f := 26) rfl ?_); refine goesL_ (some 28) rfl rfl Try.func26 (by kernel_rfl) rfl #[.slice A0 l0.length c0, .slice A1 l1.length c1] rfl (by (try simp only [List.map_toArray, List.map_cons, List.map_nil]); first | done | rfl | (simp only [List.length_drop, List.length_take]; rfl)) ?_; (with_reducible refine (grapevineref04_Common.calls kj3 _ _ l0 _ _ l1 t293 _ ?side1 ?side2 ?side3 ?side4 A9.out).mono ?_); (case side1 => repeat (first | exact (Kd.C_below HR0.out HB.out) | (with_reducible refine Kd.C_alloc ?_ _) | (with_reducible refine Kd.C_drewN ?_ _) | (with_reducible refine Kd.C_drew ?_))); (case side2 => exact HC0.out); (case side3 => repeat (first | exact (Kd.C_below HR1.out HB.out) | (with_reducible refine Kd.C_alloc ?_ _) | (with_reducible refine Kd.C_drewN ?_ _) | (with_reducible refine Kd.C_drew ?_))); (case side4 => exact HC1.out); rintro e w17 ⟨rfl, hb⟩; refine ⟨_, rfl, ?_⟩; have n0_ := Aside0.mk (Kd.S_below (by (with_reducible repeat (first | apply Kd.S_alloc | apply Kd.S_drewN | apply Kd.S_drew)); exact HO292.out) hb); have n1_ := Aside0.mk (below_step (by repeat (first | (with_reducible first | exact HB.out | apply below_alloc | apply pw_below_drewN | apply below_drew1) | exact HB.out)) hb); clear HO292; clear HB; have HO292 := n0_; have HB := n1_; clear n0_ n1_; (try clear hb); (try clear hb2); (try clear hk); (try clear hi); obtain ⟨Ao18, co18, eo18⟩ := Kd.S_slice HO292.out; subst eo18) | (go_at_call 21; (with_reducible refine (diff_Size.calls kj3 _ _ t290 t294 _ ?side1 ?side2 A11.out).mono ?_); (case side1 => repeat (first | exact (Kd.S_reads' HO292.out).2.2 | (with_reducible refine Kd.C_alloc ?_ _) | (with_reducible refine Kd.C_drewN ?_ _) | (with_reducible refine Kd.C_drew ?_))); (case side2 => exact (Kd.S_reads' HO292.out).2.1); rintro e w19 ⟨rfl, hb⟩; have n0_ := Aside0.mk (Kd.S_below (by (with_reducible repeat (first | apply Kd.S_alloc | apply Kd.S_drewN | apply Kd.S_drew)); exact HO292.out) hb); have n1_ := Aside0.mk (below_step (by repeat (first | (with_reducible first | exact HB.out | apply below_alloc | apply pw_below_drewN | apply below_drew1) | exact HB.out)) hb); clear HO292; clear HB; have HO292 := n0_; have HB := n1_; clear n0_ n1_; (try clear hb); (try clear hb2); (try clear hk); (try clear hi)) | (go_at_call 17; (with_reducible refine (grapevineref01_Texts.calls kj3 _ _ l0 _ _ l1 t295 _ ?side1 ?side2 ?side3 ?side4 A13.out).mono ?_); (case side1 => repeat (first | exact (Kd.C_below HR0.out HB.out) | (with_reducible refine Kd.C_alloc ?_ _) | (with_reducible refine Kd.C_drewN ?_ _) | (with_reducible refine Kd.C_drew ?_))); (case side2 => exact HC0.out); (case side3 => repeat (first | exact (Kd.C_below HR1.out HB.out) | (with_reducible refine Kd.C_alloc ?_ _) | (with_reducible refine Kd.C_drewN ?_ _) | (with_reducible refine Kd.C_drew ?_))); (case side4 => exact HC1.out); rintro e w' ⟨rfl, ⟨nd, rfl⟩⟩) | (go_at_call 15; (with_reducible refine (diff_Diff.calls _ _ l0 _ _ l0 t296 _ ?side1 ?side2 ?side3 ?side4 A15.out).mono ?_); (case side1 => repeat (first | exact (Kd.C_below HR0.out (by repeat (first | (with_reducible first | exact HB.out | apply below_alloc | apply pw_below_drewN | apply below_drew1) | exact HB.out))) | (with_reducible refine Kd.C_alloc ?_ _) | (with_reducible refine Kd.C_drewN ?_ _) | (with_reducible refine Kd.C_drew ?_))); (case side2 => exact HC0.out); (case side3 => repeat (first | exact (Kd.C_below HR0.out (by repeat (first | (with_reducible first | exact HB.out | apply below_alloc | apply pw_below_drewN | apply below_drew1) | exact HB.out))) | (with_reducible refine Kd.C_alloc ?_ _) | (with_reducible refine Kd.C_drewN ?_ _) | (with_reducible refine Kd.C_drew ?_))); (case side4 => exact HC0.out); rintro e w20 ⟨v297, rfl, ho0, hb⟩; have n0_ := Aside0.mk (Kd.S_elder' (by (with_reducible repeat (first | apply Kd.S_alloc | apply Kd.S_drewN | apply Kd.S_drew)); exact HO292.out) (Kd.S_base ho0) hb); have n1_ := Aside0.mk (Kd.S_lower (Kd.S_new' ho0 (Kd.S_lt (by (with_reducible repeat (first | apply Kd.S_alloc | apply Kd.S_drewN | apply Kd.S_drew)); exact HO292.out))) (below_size (by repeat (first | (with_reducible first | exact HB.out | apply below_alloc | apply pw_below_drewN | apply below_drew1) | exact HB.out)))); have n2_ := Aside0.mk (below_step (by repeat (first | (with_reducible first | exact HB.out | apply below_alloc | apply pw_below_drewN | apply below_drew1) | exact HB.out)) hb); clear HO292; clear HB; have HO292 := n0_; have HO298 := n1_; have HB := n2_; clear n0_ n1_ n2_; (try clear hb); (try clear hb2); (try clear hk); (try clear hi); (try clear ho0); obtain ⟨Ao21, co21, eo21⟩ := Kd.S_slice HO298.out; subst eo21))
              go_ret
              exact ⟨by first | rfl | (simp [errW_none, errW_some] <;> rfl) | (simp [*, errW_none, errW_some] <;> rfl), by repeat (first | (with_reducible first | exact HB.out | apply below_alloc | apply pw_below_drewN | apply below_drew1) | exact HB.out)⟩
            · rw [if_neg c14] at H
              have c14b0 : (((t290.length : Int) == 0) == t295) = false := by simpa using c14
              (try (have c14b1 : decide (((t290.length : Int) == 0) = t295) = false := by simpa using c14))
              (try (have c14b2 : (((t290.length : Int) == 0) == t295) = false := by simpa using c14))
              (try (have c14b3 : ¬ (((t290.length : Int) == 0) = t295) := by simpa using c14))
              clear c14
              exact absurd (H.trans (congrArg some hrt_.out)) (by simp)
          · rw [if_neg c12] at H
            have c12b0 : (t294 == (wrap64 ((wrap64 ((l0.length : Int) + (l1.length : Int))) - (wrap64 (2 * t293))))) = false := beq_eq_false_iff_ne.mpr c12
            have c12b1 : (t294 != (wrap64 ((wrap64 ((l0.length : Int) + (l1.length : Int))) - (wrap64 (2 * t293))))) = true := bne_iff_ne.mpr c12
            exact absurd (H.trans (congrArg some hrt_.out)) (by simp)
        · replace c10 := Bool.eq_false_iff.mpr c10
          subst c10
          have H1 : (some false) = some r := by rw [if_neg (show ¬ (false = true) by decide)] at H; exact H
          clear H
          have H := H1
          clear H1
          exact absurd (H.trans (congrArg some hrt_.out)) (by simp)

end Go.Proofs.Ytebfopcihjadpaa.Pr
