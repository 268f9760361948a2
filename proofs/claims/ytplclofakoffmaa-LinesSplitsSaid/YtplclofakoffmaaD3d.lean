-- written by a program of this session's (a turned copy of the kit's printer); Lean checks it
import Derived.Test.YtplclofakoffmaaD0
import Derived.Test.YtplclofakoffmaaGEach
import Derived.Test.YtplclofakoffmaaD1a
import Derived.Test.YtplclofakoffmaaD1d
import Derived.Test.YtplclofakoffmaaD1i
import Derived.Test.YtplclofakoffmaaD2c
import Derived.Test.YtplclofakoffmaaD3a
import Derived.Test.YtplclofakoffmaaD3b
import Derived.Test.YtplclofakoffmaaD3c
namespace Go.Proofs.Ytplclofakoffmaa.Pr
open Go.RowKit Go.Proofs.YtplclofakoffmaaW.PrintWords Go.Proofs.YtplclofakoffmaaW.PrintLast Go.Proofs.YtplclofakoffmaaW.PrintMore
attribute [local go_sem] max2_int min2_int max_two min_two max_three min_three max_four min_four   -- for this text's walks alone
set_option linter.unusedVariables false
set_option linter.unusedSimpArgs false

/-! ### grapevinelaw03_LinesSplits: function 3 -/
def grapevinelaw03_LinesSplits.f (k : Nat) (a0 : ByteArray) : Option (Bool) := (grapevinelaw03_awake.f k).bind fun t136 => (if (a0.size : Int) > 400 then (some t136) else ((grapevineref03_Split.f k a0).bind fun t137 => (if t136 = true then ((lines_Split.f a0).bind fun t140 => ((grapevineref01_Texts.f k t140 t137).bind fun t143 => (if t143 = true then ((lines_Count.f a0).bind fun t144 => (if t144 = (t137.length : Int) then ((lines_Closed.f a0).bind fun t145 => ((grapevineref03_Closed.f a0).bind fun t146 => (if (t145 == t146) = true then ((lines_Binary.f a0).bind fun t147 => ((grapevineref03_Binary.f k a0).bind fun t148 => (some (t147 == t148)))) else (some false)))) else (some false))) else (some false)))) else (some false))))
theorem grapevinelaw03_LinesSplits.mono : ∀ a0 k, LeO (grapevinelaw03_LinesSplits.f k a0) (grapevinelaw03_LinesSplits.f (k + 1) a0) := by
  intro a0 k
  unfold grapevinelaw03_LinesSplits.f
  repeat' first
      | (with_reducible exact grapevinelaw03_awake.mono _)
      | (with_reducible exact grapevineref01_Texts.mono _ _ _)
      | (with_reducible exact grapevineref03_Binary.mono _ _)
      | (with_reducible exact grapevineref03_Split.mono _ _)
      | (with_reducible exact LeO.refl _)
      | (with_reducible exact LeO.none _)
      | (with_reducible refine LeO.ite ?_ ?_)
      | (with_reducible refine LeO.bind ?_ (fun _ => ?_))
      | exact grapevinelaw03_awake.mono _
      | exact grapevineref01_Texts.mono _ _ _
      | exact grapevineref03_Binary.mono _ _
      | exact grapevineref03_Split.mono _ _
      | exact LeO.none _
      | refine LeO.ite ?_ ?_
      | refine LeO.bind ?_ (fun _ => ?_)
set_option maxHeartbeats 8000000 in
set_option maxRecDepth 100000 in
theorem grapevinelaw03_LinesSplits.calls (k : Nat) (a0 : ByteArray) (r : Bool) (w : World) (hrt_ : Aside0 (r = true)) (h : grapevinelaw03_LinesSplits.f k a0 = some r) :
    Calls Try.prog 3 #[.string a0] w fun e w' => e = .returned (.bool r) ∧ Below w.heap.size w w' := by
  have HB := Aside0.mk (Below.refl w.heap.size w)
  have H : ((grapevinelaw03_awake.f k).bind fun t136 => (if (a0.size : Int) > 400 then (some t136) else ((grapevineref03_Split.f k a0).bind fun t137 => (if t136 = true then ((lines_Split.f a0).bind fun t140 => ((grapevineref01_Texts.f k t140 t137).bind fun t143 => (if t143 = true then ((lines_Count.f a0).bind fun t144 => (if t144 = (t137.length : Int) then ((lines_Closed.f a0).bind fun t145 => ((grapevineref03_Closed.f a0).bind fun t146 => (if (t145 == t146) = true then ((lines_Binary.f a0).bind fun t147 => ((grapevineref03_Binary.f k a0).bind fun t148 => (some (t147 == t148)))) else (some false)))) else (some false))) else (some false)))) else (some false))))) = some r := h
  clear h
  replace H := Option.bind_eq_some_iff.mp H
  obtain ⟨t136, A20, H⟩ := H
  replace H : (if (a0.size : Int) > 400 then (some t136) else ((grapevineref03_Split.f k a0).bind fun t137 => (if t136 = true then ((lines_Split.f a0).bind fun t140 => ((grapevineref01_Texts.f k t140 t137).bind fun t143 => (if t143 = true then ((lines_Count.f a0).bind fun t144 => (if t144 = (t137.length : Int) then ((lines_Closed.f a0).bind fun t145 => ((grapevineref03_Closed.f a0).bind fun t146 => (if (t145 == t146) = true then ((lines_Binary.f a0).bind fun t147 => ((grapevineref03_Binary.f k a0).bind fun t148 => (some (t147 == t148)))) else (some false)))) else (some false))) else (some false)))) else (some false)))) = some r := H
  have A2 := Aside0.mk A20
  clear A20
  by_cases c3 : (a0.size : Int) > 400
  · rw [if_pos c3] at H
    have c3b0 : decide (400 < (a0.size : Int)) = true := decide_eq_true c3
    have c3b1 : decide (400 < a0.size) = true := decide_eq_true (by omega)
    clear c3
    obtain rfl := Option.some.inj H
    go_enter Try.func3, Try.ntmps3
    go_wp2_with (first | ((with_reducible refine gate_callee (f := 8) rfl ?_); refine goesL_ (some 5) rfl rfl Try.func8 (by kernel_rfl) rfl #[] rfl (by (try simp only [List.map_toArray, List.map_cons, List.map_nil]); first | done | rfl | (simp only [List.length_drop, List.length_take]; rfl)) ?_; (with_reducible refine (grapevinelaw03_awake.calls k  t136 _ A2.out).mono ?_); rintro e w4 ⟨rfl, hb⟩; refine ⟨_, rfl, ?_⟩; have n0_ := Aside0.mk (below_step (by repeat (first | (with_reducible first | exact HB.out | apply below_alloc | apply pw_below_drewN | apply below_drew1) | exact HB.out)) hb); clear HB; have HB := n0_; clear n0_; (try clear hb); (try clear hb2); (try clear hk); (try clear hi)))
    go_ret
    exact ⟨by first | rfl | (simp [errW_none, errW_some] <;> rfl) | (simp [*, errW_none, errW_some] <;> rfl), by repeat (first | (with_reducible first | exact HB.out | apply below_alloc | apply pw_below_drewN | apply below_drew1) | exact HB.out)⟩
  · rw [if_neg c3] at H
    have c3b0 : decide (400 < (a0.size : Int)) = false := decide_eq_false c3
    have c3b1 : decide (400 < a0.size) = false := decide_eq_false (by omega)
    clear c3
    replace H := Option.bind_eq_some_iff.mp H
    obtain ⟨t137, A50, H⟩ := H
    replace H : (if t136 = true then ((lines_Split.f a0).bind fun t140 => ((grapevineref01_Texts.f k t140 t137).bind fun t143 => (if t143 = true then ((lines_Count.f a0).bind fun t144 => (if t144 = (t137.length : Int) then ((lines_Closed.f a0).bind fun t145 => ((grapevineref03_Closed.f a0).bind fun t146 => (if (t145 == t146) = true then ((lines_Binary.f a0).bind fun t147 => ((grapevineref03_Binary.f k a0).bind fun t148 => (some (t147 == t148)))) else (some false)))) else (some false))) else (some false)))) else (some false)) = some r := H
    have A5 := Aside0.mk A50
    clear A50
    by_cases c6 : t136 = true
    · subst c6
      have H1 : ((lines_Split.f a0).bind fun t140 => ((grapevineref01_Texts.f k t140 t137).bind fun t143 => (if t143 = true then ((lines_Count.f a0).bind fun t144 => (if t144 = (t137.length : Int) then ((lines_Closed.f a0).bind fun t145 => ((grapevineref03_Closed.f a0).bind fun t146 => (if (t145 == t146) = true then ((lines_Binary.f a0).bind fun t147 => ((grapevineref03_Binary.f k a0).bind fun t148 => (some (t147 == t148)))) else (some false)))) else (some false))) else (some false)))) = some r := by rw [if_pos rfl] at H; exact H
      clear H
      have H := H1
      clear H1
      replace H := Option.bind_eq_some_iff.mp H
      obtain ⟨t140, A70, H⟩ := H
      replace H : ((grapevineref01_Texts.f k t140 t137).bind fun t143 => (if t143 = true then ((lines_Count.f a0).bind fun t144 => (if t144 = (t137.length : Int) then ((lines_Closed.f a0).bind fun t145 => ((grapevineref03_Closed.f a0).bind fun t146 => (if (t145 == t146) = true then ((lines_Binary.f a0).bind fun t147 => ((grapevineref03_Binary.f k a0).bind fun t148 => (some (t147 == t148)))) else (some false)))) else (some false))) else (some false))) = some r := H
      have A7 := Aside0.mk A70
      clear A70
      replace H := Option.bind_eq_some_iff.mp H
      obtain ⟨t143, A80, H⟩ := H
      replace H : (if t143 = true then ((lines_Count.f a0).bind fun t144 => (if t144 = (t137.length : Int) then ((lines_Closed.f a0).bind fun t145 => ((grapevineref03_Closed.f a0).bind fun t146 => (if (t145 == t146) = true then ((lines_Binary.f a0).bind fun t147 => ((grapevineref03_Binary.f k a0).bind fun t148 => (some (t147 == t148)))) else (some false)))) else (some false))) else (some false)) = some r := H
      have A8 := Aside0.mk A80
      clear A80
      by_cases c9 : t143 = true
      · subst c9
        have H1 : ((lines_Count.f a0).bind fun t144 => (if t144 = (t137.length : Int) then ((lines_Closed.f a0).bind fun t145 => ((grapevineref03_Closed.f a0).bind fun t146 => (if (t145 == t146) = true then ((lines_Binary.f a0).bind fun t147 => ((grapevineref03_Binary.f k a0).bind fun t148 => (some (t147 == t148)))) else (some false)))) else (some false))) = some r := by rw [if_pos rfl] at H; exact H
        clear H
        have H := H1
        clear H1
        replace H := Option.bind_eq_some_iff.mp H
        obtain ⟨t144, A100, H⟩ := H
        replace H : (if t144 = (t137.length : Int) then ((lines_Closed.f a0).bind fun t145 => ((grapevineref03_Closed.f a0).bind fun t146 => (if (t145 == t146) = true then ((lines_Binary.f a0).bind fun t147 => ((grapevineref03_Binary.f k a0).bind fun t148 => (some (t147 == t148)))) else (some false)))) else (some false)) = some r := H
        have A10 := Aside0.mk A100
        clear A100
        by_cases c11 : t144 = (t137.length : Int)
        · rw [if_pos c11] at H
          have c11b0 : (t144 == (t137.length : Int)) = true := beq_iff_eq.mpr c11
          have c11b1 : (t144 != (t137.length : Int)) = false := bne_eq_false_iff_eq.mpr c11
          clear c11
          replace H := Option.bind_eq_some_iff.mp H
          obtain ⟨t145, A120, H⟩ := H
          replace H : ((grapevineref03_Closed.f a0).bind fun t146 => (if (t145 == t146) = true then ((lines_Binary.f a0).bind fun t147 => ((grapevineref03_Binary.f k a0).bind fun t148 => (some (t147 == t148)))) else (some false))) = some r := H
          have A12 := Aside0.mk A120
          clear A120
          replace H := Option.bind_eq_some_iff.mp H
          obtain ⟨t146, A130, H⟩ := H
          replace H : (if (t145 == t146) = true then ((lines_Binary.f a0).bind fun t147 => ((grapevineref03_Binary.f k a0).bind fun t148 => (some (t147 == t148)))) else (some false)) = some r := H
          have A13 := Aside0.mk A130
          clear A130
          by_cases c14 : (t145 == t146) = true
          · rw [if_pos c14] at H
            have c14b0 : (t145 == t146) = true := c14
            (try (have c14b1 : decide (t145 = t146) = true := by simpa using c14))
            (try (have c14b2 : (t145 == t146) = true := by simpa using c14))
            clear c14
            replace H := Option.bind_eq_some_iff.mp H
            obtain ⟨t147, A150, H⟩ := H
            replace H : ((grapevineref03_Binary.f k a0).bind fun t148 => (some (t147 == t148))) = some r := H
            have A15 := Aside0.mk A150
            clear A150
            replace H := Option.bind_eq_some_iff.mp H
            obtain ⟨t148, A160, H⟩ := H
            replace H : (some (t147 == t148)) = some r := H
            have A16 := Aside0.mk A160
            clear A160
            obtain rfl := Option.some.inj H
            go_enter Try.func3, Try.ntmps3
            go_wp2_with (first | ((with_reducible refine gate_callee (f := 8) rfl ?_); refine goesL_ (some 5) rfl rfl Try.func8 (by kernel_rfl) rfl #[] rfl (by (try simp only [List.map_toArray, List.map_cons, List.map_nil]); first | done | rfl | (simp only [List.length_drop, List.length_take]; rfl)) ?_; (with_reducible refine (grapevinelaw03_awake.calls k  true _ A2.out).mono ?_); rintro e w17 ⟨rfl, hb⟩; refine ⟨_, rfl, ?_⟩; have n0_ := Aside0.mk (below_step (by repeat (first | (with_reducible first | exact HB.out | apply below_alloc | apply pw_below_drewN | apply below_drew1) | exact HB.out)) hb); clear HB; have HB := n0_; clear n0_; (try clear hb); (try clear hb2); (try clear hk); (try clear hi)) | ((with_reducible refine gate_callee (f := 9) rfl ?_); refine goesL_ (some 11) rfl rfl Try.func9 (by kernel_rfl) rfl #[.string a0] rfl (by (try simp only [List.map_toArray, List.map_cons, List.map_nil]); first | done | rfl | (simp only [List.length_drop, List.length_take]; rfl)) ?_; (with_reducible refine (grapevineref03_Split.calls k a0 t137 _ A5.out).mono ?_); rintro e w18 ⟨v138, rfl, ho0, hb⟩; refine ⟨_, rfl, ?_⟩; have n0_ := Aside0.mk (Kd.R_lower ho0 (below_size (by repeat (first | (with_reducible first | exact HB.out | apply below_alloc | apply pw_below_drewN | apply below_drew1) | exact HB.out)))); have n1_ := Aside0.mk (below_step (by repeat (first | (with_reducible first | exact HB.out | apply below_alloc | apply pw_below_drewN | apply below_drew1) | exact HB.out)) hb); clear HB; have HO139 := n0_; have HB := n1_; clear n0_ n1_; (try clear hb); (try clear hb2); (try clear hk); (try clear hi); (try clear ho0)) | (go_at_call 11; (with_reducible refine (lines_Split.calls a0 t140 _ A7.out).mono ?_); rintro e w19 ⟨v141, rfl, ho0, hb⟩; have n0_ := Aside0.mk (Kd.R_elder' (by (with_reducible repeat (first | apply Kd.R_alloc | apply Kd.R_drewN | apply Kd.R_drew)); exact HO139.out) (Kd.R_base ho0) hb); have n1_ := Aside0.mk (Kd.R_lower (Kd.R_new' ho0 (Kd.R_lt (by (with_reducible repeat (first | apply Kd.R_alloc | apply Kd.R_drewN | apply Kd.R_drew)); exact HO139.out))) (below_size (by repeat (first | (with_reducible first | exact HB.out | apply below_alloc | apply pw_below_drewN | apply below_drew1) | exact HB.out)))); have n2_ := Aside0.mk (below_step (by repeat (first | (with_reducible first | exact HB.out | apply below_alloc | apply pw_below_drewN | apply below_drew1) | exact HB.out)) hb); clear HO139; clear HB; have HO139 := n0_; have HO142 := n1_; have HB := n2_; clear n0_ n1_ n2_; (try clear hb); (try clear hb2); (try clear hk); (try clear hi); (try clear ho0); obtain ⟨Ao20, co20, eo20⟩ := Kd.R_slice HO142.out; subst eo20; obtain ⟨Ao21, co21, eo21⟩ := Kd.R_slice HO139.out; subst eo21) | (go_at_call 10; (with_reducible refine (grapevineref01_Texts.calls k _ _ t140 _ _ t137 true _ ?side1 ?side2 ?side3 ?side4 A8.out).mono ?_); (case side1 => repeat (first | exact (Kd.R_reads' HO142.out).2.2 | (with_reducible refine Kd.C_alloc ?_ _) | (with_reducible refine Kd.C_drewN ?_ _) | (with_reducible refine Kd.C_drew ?_))); (case side2 => exact (Kd.R_reads' HO142.out).2.1); (case side3 => repeat (first | exact (Kd.R_reads' HO139.out).2.2 | (with_reducible refine Kd.C_alloc ?_ _) | (with_reducible refine Kd.C_drewN ?_ _) | (with_reducible refine Kd.C_drew ?_))); (case side4 => exact (Kd.R_reads' HO139.out).2.1); rintro e w' ⟨rfl, ⟨nd, rfl⟩⟩) | (go_at_call 12; (with_reducible refine (lines_Count.calls a0 t144 _ A10.out).mono ?_); rintro e w22 ⟨rfl, hb⟩; have n0_ := Aside0.mk (Kd.R_below (by (with_reducible repeat (first | apply Kd.R_alloc | apply Kd.R_drewN | apply Kd.R_drew)); exact HO139.out) hb); have n1_ := Aside0.mk (Kd.R_below (by (with_reducible repeat (first | apply Kd.R_alloc | apply Kd.R_drewN | apply Kd.R_drew)); exact HO142.out) hb); have n2_ := Aside0.mk (below_step (by repeat (first | (with_reducible first | exact HB.out | apply below_alloc | apply pw_below_drewN | apply below_drew1) | exact HB.out)) hb); clear HO139; clear HO142; clear HB; have HO139 := n0_; have HO142 := n1_; have HB := n2_; clear n0_ n1_ n2_; (try clear hb); (try clear hb2); (try clear hk); (try clear hi)) | (go_at_call 13; (with_reducible refine (lines_Closed.calls a0 t145 _ A12.out).mono ?_); rintro e w' ⟨rfl, ⟨nd, rfl⟩⟩) | (go_at_call 14; (with_reducible refine (grapevineref03_Closed.calls a0 t146 _ A13.out).mono ?_); rintro e w' ⟨rfl, ⟨nd, rfl⟩⟩) | (go_at_call 15; (with_reducible refine (lines_Binary.calls a0 t147 _ A15.out).mono ?_); rintro e w' ⟨rfl, ⟨nd, rfl⟩⟩) | (go_at_call 16; (with_reducible refine (grapevineref03_Binary.calls k a0 t148 _ A16.out).mono ?_); rintro e w' ⟨rfl, ⟨nd, rfl⟩⟩))
            go_ret
            exact ⟨by first | rfl | (simp [errW_none, errW_some] <;> rfl) | (simp [*, errW_none, errW_some] <;> rfl), by repeat (first | (with_reducible first | exact HB.out | apply below_alloc | apply pw_below_drewN | apply below_drew1) | exact HB.out)⟩
          · rw [if_neg c14] at H
            have c14b0 : (t145 == t146) = false := by simpa using c14
            (try (have c14b1 : decide (t145 = t146) = false := by simpa using c14))
            (try (have c14b2 : (t145 == t146) = false := by simpa using c14))
            (try (have c14b3 : ¬ (t145 = t146) := by simpa using c14))
            clear c14
            exact absurd (H.trans (congrArg some hrt_.out)) (by simp)
        · rw [if_neg c11] at H
          have c11b0 : (t144 == (t137.length : Int)) = false := beq_eq_false_iff_ne.mpr c11
          have c11b1 : (t144 != (t137.length : Int)) = true := bne_iff_ne.mpr c11
          exact absurd (H.trans (congrArg some hrt_.out)) (by simp)
      · replace c9 := Bool.eq_false_iff.mpr c9
        subst c9
        have H1 : (some false) = some r := by rw [if_neg (show ¬ (false = true) by decide)] at H; exact H
        clear H
        have H := H1
        clear H1
        exact absurd (H.trans (congrArg some hrt_.out)) (by simp)
    · replace c6 := Bool.eq_false_iff.mpr c6
      subst c6
      have H1 : (some false) = some r := by rw [if_neg (show ¬ (false = true) by decide)] at H; exact H
      clear H
      have H := H1
      clear H1
      exact absurd (H.trans (congrArg some hrt_.out)) (by simp)

/-- THE ONE PURE STATEMENT of grapevinelaw03_LinesSplits: yours. -/
def grapevinelaw03_LinesSplits.Pure : Prop := ∀ (a0 : ByteArray), a0.size ≤ 140737488351232 → ∃ k, grapevinelaw03_LinesSplits.f k a0 = some true
theorem grapevinelaw03_LinesSplits.walk (P : grapevinelaw03_LinesSplits.Pure) (a0 : ByteArray) (w : World) (w0 : a0.size ≤ 140737488351232) :
    Calls Try.prog 3 #[.string a0] w fun e w' => e = .returned (.bool true) ∧ Below w.heap.size w w' := by
  obtain ⟨k, h⟩ := P a0 w0
  refine (grapevinelaw03_LinesSplits.calls k a0 true w ⟨rfl⟩ h).mono ?_
  rintro e w' ⟨rfl, hd⟩
  exact ⟨rfl, hd⟩

end Go.Proofs.Ytplclofakoffmaa.Pr
