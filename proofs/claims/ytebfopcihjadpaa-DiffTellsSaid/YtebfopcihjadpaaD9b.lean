-- written by a program of this session's (a turned copy of the kit's printer); Lean checks it
import Derived.Test.YtebfopcihjadpaaD0
import Derived.Test.YtebfopcihjadpaaGAwake
import Derived.Test.YtebfopcihjadpaaGDiff
import Derived.Test.YtebfopcihjadpaaGSame
import Derived.Test.YtebfopcihjadpaaD1a
import Derived.Test.YtebfopcihjadpaaD1b
import Derived.Test.YtebfopcihjadpaaD1c
import Derived.Test.YtebfopcihjadpaaD2a
import Derived.Test.YtebfopcihjadpaaD2b
namespace Go.Proofs.Ytebfopcihjadpaa.Pr
open Go.RowKit Go.Proofs.YtebfopcihjadpaaW.PrintWords Go.Proofs.YtebfopcihjadpaaW.PrintLast Go.Proofs.YtebfopcihjadpaaW.PrintMore
attribute [local go_sem] max2_int min2_int max_two min_two max_three min_three max_four min_four   -- for this text's walks alone
set_option linter.unusedVariables false
set_option linter.unusedSimpArgs false

/-! ### grapevinelaw04_DiffBack: function 7 -/
def grapevinelaw04_DiffBack.j0 : Nat → List ByteArray → List ByteArray → Bool → Bool → Option (Bool)
  | 0, _, _, _, _ => none
  | k + 1, x0, x1, x5, x20 => if x20 = true then (some x5) else ((diff_Diff.f x0 x1).bind fun t269 => ((diff_Play.f k x0 t269).bind fun bt272 => ((diff_Turn.f k x0 t269).bind fun t276 => ((diff_Play.f k x1 t276).bind fun bt279 => (if x5 = true then (if bt272.2 = true then (if bt279.2 = true then ((grapevineref01_Texts.f k bt272.1 x1).bind fun t283 => (if t283 = true then ((grapevineref01_Texts.f k bt279.1 x0).bind fun t284 => (if t284 = true then ((diff_Right.f k (x0.length : Int) t269).bind fun t285 => (if t285 = true then ((diff_Right.f k (x1.length : Int) t276).bind fun t286 => (if t286 = true then ((diff_Size.f k t269).bind fun t287 => ((diff_Size.f k t276).bind fun t288 => (some (t287 == t288)))) else (some false))) else (some false))) else (some false))) else (some false))) else (some false)) else (some false)) else (some false))))))
def grapevinelaw04_DiffBack.f (k : Nat) (l0 : List ByteArray) (l1 : List ByteArray) : Option (Bool) := (grapevinelaw04_awake.f).bind fun t268 => (if (l0.length : Int) > 40 then (grapevinelaw04_DiffBack.j0 k l0 l1 t268 true) else (grapevinelaw04_DiffBack.j0 k l0 l1 t268 (decide ((l1.length : Int) > 40))))
theorem grapevinelaw04_DiffBack.mono_l : ∀ k, (∀ y0 y1 y2 y3, LeO (grapevinelaw04_DiffBack.j0 k y0 y1 y2 y3) (grapevinelaw04_DiffBack.j0 (k + 1) y0 y1 y2 y3))
  | 0 => fun _ _ _ _ r h => by simp [grapevinelaw04_DiffBack.j0] at h
  | k + 1 => by
    have ih0 := grapevinelaw04_DiffBack.mono_l k
    · intro y0 y1 y2 y3
      unfold grapevinelaw04_DiffBack.j0
      repeat' first
      | (with_reducible exact ih0 _ _ _ _)
      | (with_reducible exact diff_Play.mono _ _ _)
      | (with_reducible exact diff_Right.mono _ _ _)
      | (with_reducible exact diff_Size.mono _ _)
      | (with_reducible exact diff_Turn.mono _ _ _)
      | (with_reducible exact grapevineref01_Texts.mono _ _ _)
      | (with_reducible exact LeO.refl _)
      | (with_reducible exact LeO.none _)
      | (with_reducible refine LeO.ite ?_ ?_)
      | (with_reducible refine LeO.bind ?_ (fun _ => ?_))
      | exact ih0 _ _ _ _
      | exact diff_Play.mono _ _ _
      | exact diff_Right.mono _ _ _
      | exact diff_Size.mono _ _
      | exact diff_Turn.mono _ _ _
      | exact grapevineref01_Texts.mono _ _ _
      | exact LeO.none _
      | refine LeO.ite ?_ ?_
      | refine LeO.bind ?_ (fun _ => ?_)
theorem grapevinelaw04_DiffBack.mono : ∀ a0 a1 k, LeO (grapevinelaw04_DiffBack.f k a0 a1) (grapevinelaw04_DiffBack.f (k + 1) a0 a1) := by
  intro a0 a1 k
  have ih0 := grapevinelaw04_DiffBack.mono_l k
  unfold grapevinelaw04_DiffBack.f
  repeat' first
      | (with_reducible exact ih0 _ _ _ _)
      | (with_reducible exact diff_Play.mono _ _ _)
      | (with_reducible exact diff_Right.mono _ _ _)
      | (with_reducible exact diff_Size.mono _ _)
      | (with_reducible exact diff_Turn.mono _ _ _)
      | (with_reducible exact grapevineref01_Texts.mono _ _ _)
      | (with_reducible exact LeO.refl _)
      | (with_reducible exact LeO.none _)
      | (with_reducible refine LeO.ite ?_ ?_)
      | (with_reducible refine LeO.bind ?_ (fun _ => ?_))
      | exact ih0 _ _ _ _
      | exact diff_Play.mono _ _ _
      | exact diff_Right.mono _ _ _
      | exact diff_Size.mono _ _
      | exact diff_Turn.mono _ _ _
      | exact grapevineref01_Texts.mono _ _ _
      | exact LeO.none _
      | refine LeO.ite ?_ ?_
      | refine LeO.bind ?_ (fun _ => ?_)
set_option maxHeartbeats 8000000 in
set_option maxRecDepth 100000 in
theorem grapevinelaw04_DiffBack.calls (k : Nat) (A0 : Option Addr) (c0 : Nat) (l0 : List ByteArray) (A1 : Option Addr) (c1 : Nat) (l1 : List ByteArray) (r : Bool) (w : World) (hrt_ : Aside0 (r = true)) (hr0 : Kd.C Kd.string w A0 l0.length l0) (hc0 : l0.length ≤ c0) (hr1 : Kd.C Kd.string w A1 l1.length l1) (hc1 : l1.length ≤ c1) (h : grapevinelaw04_DiffBack.f k l0 l1 = some r) :
    Calls Try.prog 7 #[.slice A0 l0.length c0, .slice A1 l1.length c1] w fun e w' => e = .returned (.bool r) ∧ Below w.heap.size w w' := by
  have HR0 := Aside0.mk hr0
  have HC0 := Aside0.mk hc0
  clear hr0 hc0
  have HR1 := Aside0.mk hr1
  have HC1 := Aside0.mk hc1
  clear hr1 hc1
  have HB := Aside0.mk (Below.refl w.heap.size w)
  have H : ((grapevinelaw04_awake.f).bind fun t268 => (if (l0.length : Int) > 40 then (grapevinelaw04_DiffBack.j0 k l0 l1 t268 true) else (grapevinelaw04_DiffBack.j0 k l0 l1 t268 (decide ((l1.length : Int) > 40))))) = some r := h
  clear h
  replace H := Option.bind_eq_some_iff.mp H
  obtain ⟨t268, A30, H⟩ := H
  replace H : (if (l0.length : Int) > 40 then (grapevinelaw04_DiffBack.j0 k l0 l1 t268 true) else (grapevinelaw04_DiffBack.j0 k l0 l1 t268 (decide ((l1.length : Int) > 40)))) = some r := H
  have A3 := Aside0.mk A30
  clear A30
  have HC4 := Aside0.mk H
  clear H
  go_enter Try.func7, Try.ntmps7
  go_upto_region 2 with (first | ((with_reducible refine gate_callee (f := 13) rfl ?_); refine goesL_ (some 12) rfl rfl Try.func13 (by kernel_rfl) rfl #[] rfl (by (try simp only [List.map_toArray, List.map_cons, List.map_nil]); first | done | rfl | (simp only [List.length_drop, List.length_take]; rfl)) ?_; (with_reducible refine (grapevinelaw04_awake.calls  t268 _ A3.out).mono ?_); rintro e w5 ⟨rfl, hb⟩; refine ⟨_, rfl, ?_⟩; have n0_ := Aside0.mk (below_step (by repeat (first | (with_reducible first | exact HB.out | apply below_alloc | apply pw_below_drewN | apply below_drew1) | exact HB.out)) hb); clear HB; have HB := n0_; clear n0_; (try clear hb); (try clear hb2); (try clear hk); (try clear hi)))
  (try simp only [Act.put, List.setIfInBounds_toArray, List.set_cons_zero, List.set_cons_succ])
  go_cut [20] (fun v20 wc => ∃ (kq : Nat) (x20_3 : Bool), v20 = .bool x20_3 ∧ Aside0 (grapevinelaw04_DiffBack.j0 kq l0 l1 t268 x20_3 = some r) ∧ Aside0 (kq ≤ k) ∧ Aside0 (Below w.heap.size w wc))
  case first =>
    have H := HC4.out
    clear HC4
    by_cases c6 : (l0.length : Int) > 40
    · rw [if_pos c6] at H
      have c6b0 : decide (40 < (l0.length : Int)) = true := decide_eq_true c6
      have c6b1 : decide (40 < l0.length) = true := decide_eq_true (by omega)
      clear c6
      (first | rw [c6b0] | (simp only [i64_w, i32_w]; rw [c6b0]) | skip)
      have H' := Aside0.mk H
      clear H
      go_wp2
      go_meet
      case rel => exact ⟨_, (true), (by first | rfl | (simp; done) | (simp [*]; done)), H', ⟨by first | omega | exact Nat.le_refl _⟩, ⟨by repeat (first | (with_reducible first | exact HB.out | apply below_alloc | apply pw_below_drewN | apply below_drew1) | exact HB.out)⟩⟩
    · rw [if_neg c6] at H
      have c6b0 : decide (40 < (l0.length : Int)) = false := decide_eq_false c6
      have c6b1 : decide (40 < l0.length) = false := decide_eq_false (by omega)
      clear c6
      (first | rw [c6b0] | (simp only [i64_w, i32_w]; rw [c6b0]) | skip)
      have H' := Aside0.mk H
      clear H
      go_wp2
      go_meet
      case rel => exact ⟨_, (decide ((l1.length : Int) > 40)), (by first | rfl | (simp; done) | (simp [*]; done)), H', ⟨by first | omega | exact Nat.le_refl _⟩, ⟨by repeat (first | (with_reducible first | exact HB.out | apply below_alloc | apply pw_below_drewN | apply below_drew1) | exact HB.out)⟩⟩
  case rest =>
    clear HC4
    try clear c1
    try clear p2
    try clear c6
    try clear c6b0
    try clear c6b1
    obtain ⟨kq, x20_3, rfl, HA, HJ3, HB⟩ := hcut
    cases kq with
    | zero => exact absurd HA.out (by simp [grapevinelaw04_DiffBack.j0])
    | succ kj3 =>
      have H := HA.out
      clear HA
      simp only [grapevinelaw04_DiffBack.j0] at H
      by_cases c7 : x20_3 = true
      · subst c7
        have H1 : (some t268) = some r := by rw [if_pos rfl] at H; exact H
        clear H
        have H := H1
        clear H1
        obtain rfl := Option.some.inj H
        go_wp2
        go_ret
        exact ⟨by first | rfl | (simp [errW_none, errW_some] <;> rfl) | (simp [*, errW_none, errW_some] <;> rfl), by repeat (first | (with_reducible first | exact HB.out | apply below_alloc | apply pw_below_drewN | apply below_drew1) | exact HB.out)⟩
      · replace c7 := Bool.eq_false_iff.mpr c7
        subst c7
        have H1 : ((diff_Diff.f l0 l1).bind fun t269 => ((diff_Play.f kj3 l0 t269).bind fun bt272 => ((diff_Turn.f kj3 l0 t269).bind fun t276 => ((diff_Play.f kj3 l1 t276).bind fun bt279 => (if t268 = true then (if bt272.2 = true then (if bt279.2 = true then ((grapevineref01_Texts.f kj3 bt272.1 l1).bind fun t283 => (if t283 = true then ((grapevineref01_Texts.f kj3 bt279.1 l0).bind fun t284 => (if t284 = true then ((diff_Right.f kj3 (l0.length : Int) t269).bind fun t285 => (if t285 = true then ((diff_Right.f kj3 (l1.length : Int) t276).bind fun t286 => (if t286 = true then ((diff_Size.f kj3 t269).bind fun t287 => ((diff_Size.f kj3 t276).bind fun t288 => (some (t287 == t288)))) else (some false))) else (some false))) else (some false))) else (some false))) else (some false)) else (some false)) else (some false)))))) = some r := by rw [if_neg (show ¬ (false = true) by decide)] at H; exact H
        clear H
        have H := H1
        clear H1
        replace H := Option.bind_eq_some_iff.mp H
        obtain ⟨t269, A80, H⟩ := H
        replace H : ((diff_Play.f kj3 l0 t269).bind fun bt272 => ((diff_Turn.f kj3 l0 t269).bind fun t276 => ((diff_Play.f kj3 l1 t276).bind fun bt279 => (if t268 = true then (if bt272.2 = true then (if bt279.2 = true then ((grapevineref01_Texts.f kj3 bt272.1 l1).bind fun t283 => (if t283 = true then ((grapevineref01_Texts.f kj3 bt279.1 l0).bind fun t284 => (if t284 = true then ((diff_Right.f kj3 (l0.length : Int) t269).bind fun t285 => (if t285 = true then ((diff_Right.f kj3 (l1.length : Int) t276).bind fun t286 => (if t286 = true then ((diff_Size.f kj3 t269).bind fun t287 => ((diff_Size.f kj3 t276).bind fun t288 => (some (t287 == t288)))) else (some false))) else (some false))) else (some false))) else (some false))) else (some false)) else (some false)) else (some false))))) = some r := H
        have A8 := Aside0.mk A80
        clear A80
        replace H := Option.bind_eq_some_iff.mp H
        obtain ⟨⟨t272, t275⟩, A90, H⟩ := H
        replace H : ((diff_Turn.f kj3 l0 t269).bind fun t276 => ((diff_Play.f kj3 l1 t276).bind fun bt279 => (if t268 = true then (if t275 = true then (if bt279.2 = true then ((grapevineref01_Texts.f kj3 t272 l1).bind fun t283 => (if t283 = true then ((grapevineref01_Texts.f kj3 bt279.1 l0).bind fun t284 => (if t284 = true then ((diff_Right.f kj3 (l0.length : Int) t269).bind fun t285 => (if t285 = true then ((diff_Right.f kj3 (l1.length : Int) t276).bind fun t286 => (if t286 = true then ((diff_Size.f kj3 t269).bind fun t287 => ((diff_Size.f kj3 t276).bind fun t288 => (some (t287 == t288)))) else (some false))) else (some false))) else (some false))) else (some false))) else (some false)) else (some false)) else (some false)))) = some r := H
        have A9 := Aside0.mk A90
        clear A90
        replace H := Option.bind_eq_some_iff.mp H
        obtain ⟨t276, A100, H⟩ := H
        replace H : ((diff_Play.f kj3 l1 t276).bind fun bt279 => (if t268 = true then (if t275 = true then (if bt279.2 = true then ((grapevineref01_Texts.f kj3 t272 l1).bind fun t283 => (if t283 = true then ((grapevineref01_Texts.f kj3 bt279.1 l0).bind fun t284 => (if t284 = true then ((diff_Right.f kj3 (l0.length : Int) t269).bind fun t285 => (if t285 = true then ((diff_Right.f kj3 (l1.length : Int) t276).bind fun t286 => (if t286 = true then ((diff_Size.f kj3 t269).bind fun t287 => ((diff_Size.f kj3 t276).bind fun t288 => (some (t287 == t288)))) else (some false))) else (some false))) else (some false))) else (some false))) else (some false)) else (some false)) else (some false))) = some r := H
        have A10 := Aside0.mk A100
        clear A100
        replace H := Option.bind_eq_some_iff.mp H
        obtain ⟨⟨t279, t282⟩, A110, H⟩ := H
        replace H : (if t268 = true then (if t275 = true then (if t282 = true then ((grapevineref01_Texts.f kj3 t272 l1).bind fun t283 => (if t283 = true then ((grapevineref01_Texts.f kj3 t279 l0).bind fun t284 => (if t284 = true then ((diff_Right.f kj3 (l0.length : Int) t269).bind fun t285 => (if t285 = true then ((diff_Right.f kj3 (l1.length : Int) t276).bind fun t286 => (if t286 = true then ((diff_Size.f kj3 t269).bind fun t287 => ((diff_Size.f kj3 t276).bind fun t288 => (some (t287 == t288)))) else (some false))) else (some false))) else (some false))) else (some false))) else (some false)) else (some false)) else (some false)) = some r := H
        have A11 := Aside0.mk A110
        clear A110
        by_cases c12 : t268 = true
        · subst c12
          have H1 : (if t275 = true then (if t282 = true then ((grapevineref01_Texts.f kj3 t272 l1).bind fun t283 => (if t283 = true then ((grapevineref01_Texts.f kj3 t279 l0).bind fun t284 => (if t284 = true then ((diff_Right.f kj3 (l0.length : Int) t269).bind fun t285 => (if t285 = true then ((diff_Right.f kj3 (l1.length : Int) t276).bind fun t286 => (if t286 = true then ((diff_Size.f kj3 t269).bind fun t287 => ((diff_Size.f kj3 t276).bind fun t288 => (some (t287 == t288)))) else (some false))) else (some false))) else (some false))) else (some false))) else (some false)) else (some false)) = some r := by rw [if_pos rfl] at H; exact H
          clear H
          have H := H1
          clear H1
          by_cases c13 : t275 = true
          · subst c13
            have H1 : (if t282 = true then ((grapevineref01_Texts.f kj3 t272 l1).bind fun t283 => (if t283 = true then ((grapevineref01_Texts.f kj3 t279 l0).bind fun t284 => (if t284 = true then ((diff_Right.f kj3 (l0.length : Int) t269).bind fun t285 => (if t285 = true then ((diff_Right.f kj3 (l1.length : Int) t276).bind fun t286 => (if t286 = true then ((diff_Size.f kj3 t269).bind fun t287 => ((diff_Size.f kj3 t276).bind fun t288 => (some (t287 == t288)))) else (some false))) else (some false))) else (some false))) else (some false))) else (some false)) = some r := by rw [if_pos rfl] at H; exact H
            clear H
            have H := H1
            clear H1
            by_cases c14 : t282 = true
            · subst c14
              have H1 : ((grapevineref01_Texts.f kj3 t272 l1).bind fun t283 => (if t283 = true then ((grapevineref01_Texts.f kj3 t279 l0).bind fun t284 => (if t284 = true then ((diff_Right.f kj3 (l0.length : Int) t269).bind fun t285 => (if t285 = true then ((diff_Right.f kj3 (l1.length : Int) t276).bind fun t286 => (if t286 = true then ((diff_Size.f kj3 t269).bind fun t287 => ((diff_Size.f kj3 t276).bind fun t288 => (some (t287 == t288)))) else (some false))) else (some false))) else (some false))) else (some false))) = some r := by rw [if_pos rfl] at H; exact H
              clear H
              have H := H1
              clear H1
              replace H := Option.bind_eq_some_iff.mp H
              obtain ⟨t283, A150, H⟩ := H
              replace H : (if t283 = true then ((grapevineref01_Texts.f kj3 t279 l0).bind fun t284 => (if t284 = true then ((diff_Right.f kj3 (l0.length : Int) t269).bind fun t285 => (if t285 = true then ((diff_Right.f kj3 (l1.length : Int) t276).bind fun t286 => (if t286 = true then ((diff_Size.f kj3 t269).bind fun t287 => ((diff_Size.f kj3 t276).bind fun t288 => (some (t287 == t288)))) else (some false))) else (some false))) else (some false))) else (some false)) = some r := H
              have A15 := Aside0.mk A150
              clear A150
              by_cases c16 : t283 = true
              · subst c16
                have H1 : ((grapevineref01_Texts.f kj3 t279 l0).bind fun t284 => (if t284 = true then ((diff_Right.f kj3 (l0.length : Int) t269).bind fun t285 => (if t285 = true then ((diff_Right.f kj3 (l1.length : Int) t276).bind fun t286 => (if t286 = true then ((diff_Size.f kj3 t269).bind fun t287 => ((diff_Size.f kj3 t276).bind fun t288 => (some (t287 == t288)))) else (some false))) else (some false))) else (some false))) = some r := by rw [if_pos rfl] at H; exact H
                clear H
                have H := H1
                clear H1
                replace H := Option.bind_eq_some_iff.mp H
                obtain ⟨t284, A170, H⟩ := H
                replace H : (if t284 = true then ((diff_Right.f kj3 (l0.length : Int) t269).bind fun t285 => (if t285 = true then ((diff_Right.f kj3 (l1.length : Int) t276).bind fun t286 => (if t286 = true then ((diff_Size.f kj3 t269).bind fun t287 => ((diff_Size.f kj3 t276).bind fun t288 => (some (t287 == t288)))) else (some false))) else (some false))) else (some false)) = some r := H
                have A17 := Aside0.mk A170
                clear A170
                by_cases c18 : t284 = true
                · subst c18
                  have H1 : ((diff_Right.f kj3 (l0.length : Int) t269).bind fun t285 => (if t285 = true then ((diff_Right.f kj3 (l1.length : Int) t276).bind fun t286 => (if t286 = true then ((diff_Size.f kj3 t269).bind fun t287 => ((diff_Size.f kj3 t276).bind fun t288 => (some (t287 == t288)))) else (some false))) else (some false))) = some r := by rw [if_pos rfl] at H; exact H
                  clear H
                  have H := H1
                  clear H1
                  replace H := Option.bind_eq_some_iff.mp H
                  obtain ⟨t285, A190, H⟩ := H
                  replace H : (if t285 = true then ((diff_Right.f kj3 (l1.length : Int) t276).bind fun t286 => (if t286 = true then ((diff_Size.f kj3 t269).bind fun t287 => ((diff_Size.f kj3 t276).bind fun t288 => (some (t287 == t288)))) else (some false))) else (some false)) = some r := H
                  have A19 := Aside0.mk A190
                  clear A190
                  by_cases c20 : t285 = true
                  · subst c20
                    have H1 : ((diff_Right.f kj3 (l1.length : Int) t276).bind fun t286 => (if t286 = true then ((diff_Size.f kj3 t269).bind fun t287 => ((diff_Size.f kj3 t276).bind fun t288 => (some (t287 == t288)))) else (some false))) = some r := by rw [if_pos rfl] at H; exact H
                    clear H
                    have H := H1
                    clear H1
                    replace H := Option.bind_eq_some_iff.mp H
                    obtain ⟨t286, A210, H⟩ := H
                    replace H : (if t286 = true then ((diff_Size.f kj3 t269).bind fun t287 => ((diff_Size.f kj3 t276).bind fun t288 => (some (t287 == t288)))) else (some false)) = some r := H
                    have A21 := Aside0.mk A210
                    clear A210
                    by_cases c22 : t286 = true
                    · subst c22
                      have H1 : ((diff_Size.f kj3 t269).bind fun t287 => ((diff_Size.f kj3 t276).bind fun t288 => (some (t287 == t288)))) = some r := by rw [if_pos rfl] at H; exact H
                      clear H
                      have H := H1
                      clear H1
                      replace H := Option.bind_eq_some_iff.mp H
                      obtain ⟨t287, A230, H⟩ := H
                      replace H : ((diff_Size.f kj3 t276).bind fun t288 => (some (t287 == t288))) = some r := H
                      have A23 := Aside0.mk A230
                      clear A230
                      replace H := Option.bind_eq_some_iff.mp H
                      obtain ⟨t288, A240, H⟩ := H
                      replace H : (some (t287 == t288)) = some r := H
                      have A24 := Aside0.mk A240
                      clear A240
                      obtain rfl := Option.some.inj H
                      go_wp2_with (first | ((with_reducible refine gate_callee (f := 15) rfl ?_); refine goesL_ (some 24) rfl rfl Try.func15 (by kernel_rfl) rfl #[.slice A0 l0.length c0, .slice A1 l1.length c1] rfl (by (try simp only [List.map_toArray, List.map_cons, List.map_nil]); first | done | rfl | (simp only [List.length_drop, List.length_take]; rfl)) ?_; (with_reducible refine (diff_Diff.calls _ _ l0 _ _ l1 t269 _ ?side1 ?side2 ?side3 ?side4 A8.out).mono ?_); (case side1 => repeat (first | exact (Kd.C_below HR0.out HB.out) | (with_reducible refine Kd.C_alloc ?_ _) | (with_reducible refine Kd.C_drewN ?_ _) | (with_reducible refine Kd.C_drew ?_))); (case side2 => exact HC0.out); (case side3 => repeat (first | exact (Kd.C_below HR1.out HB.out) | (with_reducible refine Kd.C_alloc ?_ _) | (with_reducible refine Kd.C_drewN ?_ _) | (with_reducible refine Kd.C_drew ?_))); (case side4 => exact HC1.out); rintro e w25 ⟨v270, rfl, ho0, hb⟩; refine ⟨_, rfl, ?_⟩; have n0_ := Aside0.mk (Kd.S_lower ho0 (below_size (by repeat (first | (with_reducible first | exact HB.out | apply below_alloc | apply pw_below_drewN | apply below_drew1) | exact HB.out)))); have n1_ := Aside0.mk (below_step (by repeat (first | (with_reducible first | exact HB.out | apply below_alloc | apply pw_below_drewN | apply below_drew1) | exact HB.out)) hb); clear HB; have HO271 := n0_; have HB := n1_; clear n0_ n1_; (try clear hb); (try clear hb2); (try clear hk); (try clear hi); (try clear ho0); obtain ⟨Ao26, co26, eo26⟩ := Kd.S_slice HO271.out; subst eo26) | ((with_reducible refine gate_callee (f := 22) rfl ?_); refine goesL_ (some 28) rfl rfl Try.func22 (by kernel_rfl) rfl #[.slice A0 l0.length c0, .slice Ao26 t269.length co26] rfl (by (try simp only [List.map_toArray, List.map_cons, List.map_nil]); first | done | rfl | (simp only [List.length_drop, List.length_take]; rfl)) ?_; (with_reducible refine (diff_Play.calls kj3 (fun k_ => k_ < w.heap.size) _ _ l0 (fun k_ => True) _ _ t269 t272 true _ ?side1 ?side2 A9.out).mono ?_); (case side1 => exact Kd.V_mk HC0.out (Kd.F_below (Kd.C_F Kd.heap_string HR0.out) (by repeat (first | (with_reducible first | exact HB.out | apply below_alloc | apply pw_below_drewN | apply below_drew1) | exact HB.out)))); (case side2 => exact Kd.S_V (HO271.out)); rintro e w27 ⟨v273, rfl, ho0, hb⟩; refine ⟨_, rfl, ?_⟩; have n0_ := Aside0.mk (Kd.S_elder' (by (with_reducible repeat (first | apply Kd.S_alloc | apply Kd.S_drewN | apply Kd.S_drew)); exact HO271.out) (Kd.R_base ho0) hb); have n1_ := Aside0.mk (Kd.R_lower (Kd.R_mono (ok' := fun k_ => True) ho0 (fun _ hk_ => trivial)) (below_size (by repeat (first | (with_reducible first | exact HB.out | apply below_alloc | apply pw_below_drewN | apply below_drew1) | exact HB.out)))); have n2_ := Aside0.mk (below_step (by repeat (first | (with_reducible first | exact HB.out | apply below_alloc | apply pw_below_drewN | apply below_drew1) | exact HB.out)) hb); clear HO271; clear HB; have HO271 := n0_; have HO274 := n1_; have HB := n2_; clear n0_ n1_ n2_; (try clear hb); (try clear hb2); (try clear hk); (try clear hi); (try clear ho0)) | ((with_reducible refine gate_callee (f := 24) rfl ?_); refine goesL_ (some 33) rfl rfl Try.func24 (by kernel_rfl) rfl #[.slice A0 l0.length c0, .slice Ao26 t269.length co26] rfl (by (try simp only [List.map_toArray, List.map_cons, List.map_nil]); first | done | rfl | (simp only [List.length_drop, List.length_take]; rfl)) ?_; (with_reducible refine (diff_Turn.calls kj3 _ _ l0 _ _ t269 t276 _ ?side1 ?side2 ?side3 ?side4 A10.out).mono ?_); (case side1 => repeat (first | exact (Kd.C_below HR0.out HB.out) | (with_reducible refine Kd.C_alloc ?_ _) | (with_reducible refine Kd.C_drewN ?_ _) | (with_reducible refine Kd.C_drew ?_))); (case side2 => exact HC0.out); (case side3 => repeat (first | exact (Kd.S_reads' HO271.out).2.2 | (with_reducible refine Kd.C_alloc ?_ _) | (with_reducible refine Kd.C_drewN ?_ _) | (with_reducible refine Kd.C_drew ?_))); (case side4 => exact (Kd.S_reads' HO271.out).2.1); rintro e w28 ⟨v277, rfl, ho0, hb⟩; refine ⟨_, rfl, ?_⟩; have n0_ := Aside0.mk (Kd.S_elder' (by (with_reducible repeat (first | apply Kd.S_alloc | apply Kd.S_drewN | apply Kd.S_drew)); exact HO271.out) (Kd.S_base ho0) hb); have n1_ := Aside0.mk (Kd.R_below (by (with_reducible repeat (first | apply Kd.R_alloc | apply Kd.R_drewN | apply Kd.R_drew)); exact HO274.out) hb); have n2_ := Aside0.mk (Kd.S_lower (Kd.S_new' (Kd.S_new' ho0 (Kd.S_lt (by (with_reducible repeat (first | apply Kd.S_alloc | apply Kd.S_drewN | apply Kd.S_drew)); exact HO271.out))) (Kd.R_lt (by (with_reducible repeat (first | apply Kd.R_alloc | apply Kd.R_drewN | apply Kd.R_drew)); exact HO274.out))) (below_size (by repeat (first | (with_reducible first | exact HB.out | apply below_alloc | apply pw_below_drewN | apply below_drew1) | exact HB.out)))); have n3_ := Aside0.mk (below_step (by repeat (first | (with_reducible first | exact HB.out | apply below_alloc | apply pw_below_drewN | apply below_drew1) | exact HB.out)) hb); clear HO271; clear HO274; clear HB; have HO271 := n0_; have HO274 := n1_; have HO278 := n2_; have HB := n3_; clear n0_ n1_ n2_ n3_; (try clear hb); (try clear hb2); (try clear hk); (try clear hi); (try clear ho0); obtain ⟨Ao29, co29, eo29⟩ := Kd.S_slice HO278.out; subst eo29) | ((with_reducible refine gate_callee (f := 22) rfl ?_); refine goesL_ (some 37) rfl rfl Try.func22 (by kernel_rfl) rfl #[.slice A1 l1.length c1, .slice Ao29 t276.length co29] rfl (by (try simp only [List.map_toArray, List.map_cons, List.map_nil]); first | done | rfl | (simp only [List.length_drop, List.length_take]; rfl)) ?_; (with_reducible refine (diff_Play.calls kj3 (fun k_ => k_ < w.heap.size) _ _ l1 (fun k_ => ((True ∧ some k_ ≠ (.slice Ao26 t269.length co26 : Value).ownBlock) ∧ some k_ ≠ (v273 : Value).ownBlock)) _ _ t276 t279 true _ ?side1 ?side2 A11.out).mono ?_); (case side1 => exact Kd.V_mk HC1.out (Kd.F_below (Kd.C_F Kd.heap_string HR1.out) (by repeat (first | (with_reducible first | exact HB.out | apply below_alloc | apply pw_below_drewN | apply below_drew1) | exact HB.out)))); (case side2 => exact Kd.S_V (HO278.out)); rintro e w30 ⟨v280, rfl, ho0, hb⟩; refine ⟨_, rfl, ?_⟩; have n0_ := Aside0.mk (Kd.S_elder' (by (with_reducible repeat (first | apply Kd.S_alloc | apply Kd.S_drewN | apply Kd.S_drew)); exact HO271.out) (Kd.R_base ho0) hb); have n1_ := Aside0.mk (Kd.R_elder' (by (with_reducible repeat (first | apply Kd.R_alloc | apply Kd.R_drewN | apply Kd.R_drew)); exact HO274.out) (Kd.R_base ho0) hb); have n2_ := Aside0.mk (Kd.S_elder' (by (with_reducible repeat (first | apply Kd.S_alloc | apply Kd.S_drewN | apply Kd.S_drew)); exact HO278.out) (Kd.R_base ho0) hb); have n3_ := Aside0.mk (Kd.R_lower (Kd.R_new' (Kd.R_mono (ok' := fun k_ => True) ho0 (fun _ hk_ => trivial)) (Kd.R_lt (by (with_reducible repeat (first | apply Kd.R_alloc | apply Kd.R_drewN | apply Kd.R_drew)); exact HO274.out))) (below_size (by repeat (first | (with_reducible first | exact HB.out | apply below_alloc | apply pw_below_drewN | apply below_drew1) | exact HB.out)))); have n4_ := Aside0.mk (below_step (by repeat (first | (with_reducible first | exact HB.out | apply below_alloc | apply pw_below_drewN | apply below_drew1) | exact HB.out)) hb); clear HO271; clear HO274; clear HO278; clear HB; have HO271 := n0_; have HO274 := n1_; have HO278 := n2_; have HO281 := n3_; have HB := n4_; clear n0_ n1_ n2_ n3_ n4_; (try clear hb); (try clear hb2); (try clear hk); (try clear hi); (try clear ho0); obtain ⟨Ao31, co31, eo31⟩ := Kd.R_slice HO274.out; subst eo31) | (go_at_call 17; (with_reducible refine (grapevineref01_Texts.calls kj3 _ _ t272 _ _ l1 true _ ?side1 ?side2 ?side3 ?side4 A15.out).mono ?_); (case side1 => repeat (first | exact (Kd.R_reads' HO274.out).2.2 | (with_reducible refine Kd.C_alloc ?_ _) | (with_reducible refine Kd.C_drewN ?_ _) | (with_reducible refine Kd.C_drew ?_))); (case side2 => exact (Kd.R_reads' HO274.out).2.1); (case side3 => repeat (first | exact (Kd.C_below HR1.out HB.out) | (with_reducible refine Kd.C_alloc ?_ _) | (with_reducible refine Kd.C_drewN ?_ _) | (with_reducible refine Kd.C_drew ?_))); (case side4 => exact HC1.out); rintro e w' ⟨rfl, ⟨nd, rfl⟩⟩; obtain ⟨Ao32, co32, eo32⟩ := Kd.R_slice HO281.out; subst eo32) | (go_at_call 17; (with_reducible refine (grapevineref01_Texts.calls kj3 _ _ t279 _ _ l0 true _ ?side1 ?side2 ?side3 ?side4 A17.out).mono ?_); (case side1 => repeat (first | exact (Kd.R_reads' HO281.out).2.2 | (with_reducible refine Kd.C_alloc ?_ _) | (with_reducible refine Kd.C_drewN ?_ _) | (with_reducible refine Kd.C_drew ?_))); (case side2 => exact (Kd.R_reads' HO281.out).2.1); (case side3 => repeat (first | exact (Kd.C_below HR0.out (by repeat (first | (with_reducible first | exact HB.out | apply below_alloc | apply pw_below_drewN | apply below_drew1) | exact HB.out))) | (with_reducible refine Kd.C_alloc ?_ _) | (with_reducible refine Kd.C_drewN ?_ _) | (with_reducible refine Kd.C_drew ?_))); (case side4 => exact HC0.out); rintro e w' ⟨rfl, ⟨nd, rfl⟩⟩) | (go_at_call 19; (with_reducible refine (diff_Right.calls kj3 (l0.length : Int) _ _ t269 true _ ?side1 ?side2 A19.out).mono ?_); (case side1 => repeat (first | exact (Kd.S_reads' HO271.out).2.2 | (with_reducible refine Kd.C_alloc ?_ _) | (with_reducible refine Kd.C_drewN ?_ _) | (with_reducible refine Kd.C_drew ?_))); (case side2 => exact (Kd.S_reads' HO271.out).2.1); rintro e w33 ⟨rfl, hb⟩; have n0_ := Aside0.mk (Kd.S_below (by (with_reducible repeat (first | apply Kd.S_alloc | apply Kd.S_drewN | apply Kd.S_drew)); exact HO271.out) hb); have n1_ := Aside0.mk (Kd.R_below (by (with_reducible repeat (first | apply Kd.R_alloc | apply Kd.R_drewN | apply Kd.R_drew)); exact HO274.out) hb); have n2_ := Aside0.mk (Kd.S_below (by (with_reducible repeat (first | apply Kd.S_alloc | apply Kd.S_drewN | apply Kd.S_drew)); exact HO278.out) hb); have n3_ := Aside0.mk (Kd.R_below (by (with_reducible repeat (first | apply Kd.R_alloc | apply Kd.R_drewN | apply Kd.R_drew)); exact HO281.out) hb); have n4_ := Aside0.mk (below_step (by repeat (first | (with_reducible first | exact HB.out | apply below_alloc | apply pw_below_drewN | apply below_drew1) | exact HB.out)) hb); clear HO271; clear HO274; clear HO278; clear HO281; clear HB; have HO271 := n0_; have HO274 := n1_; have HO278 := n2_; have HO281 := n3_; have HB := n4_; clear n0_ n1_ n2_ n3_ n4_; (try clear hb); (try clear hb2); (try clear hk); (try clear hi)) | (go_at_call 19; (with_reducible refine (diff_Right.calls kj3 (l1.length : Int) _ _ t276 true _ ?side1 ?side2 A21.out).mono ?_); (case side1 => repeat (first | exact (Kd.S_reads' HO278.out).2.2 | (with_reducible refine Kd.C_alloc ?_ _) | (with_reducible refine Kd.C_drewN ?_ _) | (with_reducible refine Kd.C_drew ?_))); (case side2 => exact (Kd.S_reads' HO278.out).2.1); rintro e w34 ⟨rfl, hb⟩; have n0_ := Aside0.mk (Kd.S_below (by (with_reducible repeat (first | apply Kd.S_alloc | apply Kd.S_drewN | apply Kd.S_drew)); exact HO271.out) hb); have n1_ := Aside0.mk (Kd.R_below (by (with_reducible repeat (first | apply Kd.R_alloc | apply Kd.R_drewN | apply Kd.R_drew)); exact HO274.out) hb); have n2_ := Aside0.mk (Kd.S_below (by (with_reducible repeat (first | apply Kd.S_alloc | apply Kd.S_drewN | apply Kd.S_drew)); exact HO278.out) hb); have n3_ := Aside0.mk (Kd.R_below (by (with_reducible repeat (first | apply Kd.R_alloc | apply Kd.R_drewN | apply Kd.R_drew)); exact HO281.out) hb); have n4_ := Aside0.mk (below_step (by repeat (first | (with_reducible first | exact HB.out | apply below_alloc | apply pw_below_drewN | apply below_drew1) | exact HB.out)) hb); clear HO271; clear HO274; clear HO278; clear HO281; clear HB; have HO271 := n0_; have HO274 := n1_; have HO278 := n2_; have HO281 := n3_; have HB := n4_; clear n0_ n1_ n2_ n3_ n4_; (try clear hb); (try clear hb2); (try clear hk); (try clear hi)) | (go_at_call 21; (with_reducible refine (diff_Size.calls kj3 _ _ t269 t287 _ ?side1 ?side2 A23.out).mono ?_); (case side1 => repeat (first | exact (Kd.S_reads' HO271.out).2.2 | (with_reducible refine Kd.C_alloc ?_ _) | (with_reducible refine Kd.C_drewN ?_ _) | (with_reducible refine Kd.C_drew ?_))); (case side2 => exact (Kd.S_reads' HO271.out).2.1); rintro e w35 ⟨rfl, hb⟩; have n0_ := Aside0.mk (Kd.S_below (by (with_reducible repeat (first | apply Kd.S_alloc | apply Kd.S_drewN | apply Kd.S_drew)); exact HO271.out) hb); have n1_ := Aside0.mk (Kd.R_below (by (with_reducible repeat (first | apply Kd.R_alloc | apply Kd.R_drewN | apply Kd.R_drew)); exact HO274.out) hb); have n2_ := Aside0.mk (Kd.S_below (by (with_reducible repeat (first | apply Kd.S_alloc | apply Kd.S_drewN | apply Kd.S_drew)); exact HO278.out) hb); have n3_ := Aside0.mk (Kd.R_below (by (with_reducible repeat (first | apply Kd.R_alloc | apply Kd.R_drewN | apply Kd.R_drew)); exact HO281.out) hb); have n4_ := Aside0.mk (below_step (by repeat (first | (with_reducible first | exact HB.out | apply below_alloc | apply pw_below_drewN | apply below_drew1) | exact HB.out)) hb); clear HO271; clear HO274; clear HO278; clear HO281; clear HB; have HO271 := n0_; have HO274 := n1_; have HO278 := n2_; have HO281 := n3_; have HB := n4_; clear n0_ n1_ n2_ n3_ n4_; (try clear hb); (try clear hb2); (try clear hk); (try clear hi)) | (go_at_call 21; (with_reducible refine (diff_Size.calls kj3 _ _ t276 t288 _ ?side1 ?side2 A24.out).mono ?_); (case side1 => repeat (first | exact (Kd.S_reads' HO278.out).2.2 | (with_reducible refine Kd.C_alloc ?_ _) | (with_reducible refine Kd.C_drewN ?_ _) | (with_reducible refine Kd.C_drew ?_))); (case side2 => exact (Kd.S_reads' HO278.out).2.1); rintro e w36 ⟨rfl, hb⟩; have n0_ := Aside0.mk (Kd.S_below (by (with_reducible repeat (first | apply Kd.S_alloc | apply Kd.S_drewN | apply Kd.S_drew)); exact HO271.out) hb); have n1_ := Aside0.mk (Kd.R_below (by (with_reducible repeat (first | apply Kd.R_alloc | apply Kd.R_drewN | apply Kd.R_drew)); exact HO274.out) hb); have n2_ := Aside0.mk (Kd.S_below (by (with_reducible repeat (first | apply Kd.S_alloc | apply Kd.S_drewN | apply Kd.S_drew)); exact HO278.out) hb); have n3_ := Aside0.mk (Kd.R_below (by (with_reducible repeat (first | apply Kd.R_alloc | apply Kd.R_drewN | apply Kd.R_drew)); exact HO281.out) hb); have n4_ := Aside0.mk (below_step (by repeat (first | (with_reducible first | exact HB.out | apply below_alloc | apply pw_below_drewN | apply below_drew1) | exact HB.out)) hb); clear HO271; clear HO274; clear HO278; clear HO281; clear HB; have HO271 := n0_; have HO274 := n1_; have HO278 := n2_; have HO281 := n3_; have HB := n4_; clear n0_ n1_ n2_ n3_ n4_; (try clear hb); (try clear hb2); (try clear hk); (try clear hi)))
                      go_ret
                      exact ⟨by first | rfl | (simp [errW_none, errW_some] <;> rfl) | (simp [*, errW_none, errW_some] <;> rfl), by repeat (first | (with_reducible first | exact HB.out | apply below_alloc | apply pw_below_drewN | apply below_drew1) | exact HB.out)⟩
                    · replace c22 := Bool.eq_false_iff.mpr c22
                      subst c22
                      have H1 : (some false) = some r := by rw [if_neg (show ¬ (false = true) by decide)] at H; exact H
                      clear H
                      have H := H1
                      clear H1
                      exact absurd (H.trans (congrArg some hrt_.out)) (by simp)
                  · replace c20 := Bool.eq_false_iff.mpr c20
                    subst c20
                    have H1 : (some false) = some r := by rw [if_neg (show ¬ (false = true) by decide)] at H; exact H
                    clear H
                    have H := H1
                    clear H1
                    exact absurd (H.trans (congrArg some hrt_.out)) (by simp)
                · replace c18 := Bool.eq_false_iff.mpr c18
                  subst c18
                  have H1 : (some false) = some r := by rw [if_neg (show ¬ (false = true) by decide)] at H; exact H
                  clear H
                  have H := H1
                  clear H1
                  exact absurd (H.trans (congrArg some hrt_.out)) (by simp)
              · replace c16 := Bool.eq_false_iff.mpr c16
                subst c16
                have H1 : (some false) = some r := by rw [if_neg (show ¬ (false = true) by decide)] at H; exact H
                clear H
                have H := H1
                clear H1
                exact absurd (H.trans (congrArg some hrt_.out)) (by simp)
            · replace c14 := Bool.eq_false_iff.mpr c14
              subst c14
              have H1 : (some false) = some r := by rw [if_neg (show ¬ (false = true) by decide)] at H; exact H
              clear H
              have H := H1
              clear H1
              exact absurd (H.trans (congrArg some hrt_.out)) (by simp)
          · replace c13 := Bool.eq_false_iff.mpr c13
            subst c13
            have H1 : (some false) = some r := by rw [if_neg (show ¬ (false = true) by decide)] at H; exact H
            clear H
            have H := H1
            clear H1
            exact absurd (H.trans (congrArg some hrt_.out)) (by simp)
        · replace c12 := Bool.eq_false_iff.mpr c12
          subst c12
          have H1 : (some false) = some r := by rw [if_neg (show ¬ (false = true) by decide)] at H; exact H
          clear H
          have H := H1
          clear H1
          exact absurd (H.trans (congrArg some hrt_.out)) (by simp)

end Go.Proofs.Ytebfopcihjadpaa.Pr
