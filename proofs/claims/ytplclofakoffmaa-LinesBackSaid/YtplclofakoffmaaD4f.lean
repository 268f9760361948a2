-- written by a program of this session's (a turned copy of the kit's printer); Lean checks it
import Derived.Test.YtplclofakoffmaaD0
import Derived.Test.YtplclofakoffmaaGEach
import Derived.Test.YtplclofakoffmaaD1a
import Derived.Test.YtplclofakoffmaaD1j
import Derived.Test.YtplclofakoffmaaD2b
import Derived.Test.YtplclofakoffmaaD2c
import Derived.Test.YtplclofakoffmaaD4b
namespace Go.Proofs.Ytplclofakoffmaa.Pr
open Go.RowKit Go.Proofs.YtplclofakoffmaaW.PrintWords Go.Proofs.YtplclofakoffmaaW.PrintLast Go.Proofs.YtplclofakoffmaaW.PrintMore
attribute [local go_sem] max2_int min2_int max_two min_two max_three min_three max_four min_four   -- for this text's walks alone
set_option linter.unusedVariables false
set_option linter.unusedSimpArgs false

/-! ### grapevinelaw03_LinesBack: function 5 -/
def grapevinelaw03_LinesBack.j0 : Nat → ByteArray → List ByteArray → Bool → Bool → Option (Bool)
  | 0, _, _, _, _ => none
  | k + 1, x0, x1, x5, x19 => if x19 = true then (some x5) else ((lines_Split.f x0).bind fun t163 => ((lines_Right.f k x1).bind fun t166 => ((lines_Join.f x1).bind fun t167 => ((lines_Split.f t167).bind fun t168 => ((grapevineref01_Texts.f k t168 x1).bind fun t171 => (if x5 = true then ((lines_Join.f t163).bind fun t172 => (if t172.toList = x0.toList then ((lines_Right.f k t163).bind fun t173 => (if t173 = true then (some (t166 == t171)) else (some false))) else (some false))) else (some false)))))))
def grapevinelaw03_LinesBack.f (k : Nat) (a0 : ByteArray) (l1 : List ByteArray) : Option (Bool) := (grapevinelaw03_awake.f k).bind fun t161 => ((grapevinelaw03_few.f k l1).bind fun t162 => (if (a0.size : Int) > 400 then (grapevinelaw03_LinesBack.j0 k a0 l1 t161 true) else (grapevinelaw03_LinesBack.j0 k a0 l1 t161 (!t162))))
theorem grapevinelaw03_LinesBack.mono_l : ∀ k, (∀ y0 y1 y2 y3, LeO (grapevinelaw03_LinesBack.j0 k y0 y1 y2 y3) (grapevinelaw03_LinesBack.j0 (k + 1) y0 y1 y2 y3))
  | 0 => fun _ _ _ _ r h => by simp [grapevinelaw03_LinesBack.j0] at h
  | k + 1 => by
    have ih0 := grapevinelaw03_LinesBack.mono_l k
    · intro y0 y1 y2 y3
      unfold grapevinelaw03_LinesBack.j0
      repeat' first
      | (with_reducible exact ih0 _ _ _ _)
      | (with_reducible exact grapevinelaw03_awake.mono _)
      | (with_reducible exact grapevinelaw03_few.mono _ _)
      | (with_reducible exact grapevineref01_Texts.mono _ _ _)
      | (with_reducible exact lines_Right.mono _ _)
      | (with_reducible exact LeO.refl _)
      | (with_reducible exact LeO.none _)
      | (with_reducible refine LeO.ite ?_ ?_)
      | (with_reducible refine LeO.bind ?_ (fun _ => ?_))
      | exact ih0 _ _ _ _
      | exact grapevinelaw03_awake.mono _
      | exact grapevinelaw03_few.mono _ _
      | exact grapevineref01_Texts.mono _ _ _
      | exact lines_Right.mono _ _
      | exact LeO.none _
      | refine LeO.ite ?_ ?_
      | refine LeO.bind ?_ (fun _ => ?_)
theorem grapevinelaw03_LinesBack.mono : ∀ a0 a1 k, LeO (grapevinelaw03_LinesBack.f k a0 a1) (grapevinelaw03_LinesBack.f (k + 1) a0 a1) := by
  intro a0 a1 k
  have ih0 := grapevinelaw03_LinesBack.mono_l k
  unfold grapevinelaw03_LinesBack.f
  repeat' first
      | (with_reducible exact ih0 _ _ _ _)
      | (with_reducible exact grapevinelaw03_awake.mono _)
      | (with_reducible exact grapevinelaw03_few.mono _ _)
      | (with_reducible exact grapevineref01_Texts.mono _ _ _)
      | (with_reducible exact lines_Right.mono _ _)
      | (with_reducible exact LeO.refl _)
      | (with_reducible exact LeO.none _)
      | (with_reducible refine LeO.ite ?_ ?_)
      | (with_reducible refine LeO.bind ?_ (fun _ => ?_))
      | exact ih0 _ _ _ _
      | exact grapevinelaw03_awake.mono _
      | exact grapevinelaw03_few.mono _ _
      | exact grapevineref01_Texts.mono _ _ _
      | exact lines_Right.mono _ _
      | exact LeO.none _
      | refine LeO.ite ?_ ?_
      | refine LeO.bind ?_ (fun _ => ?_)
set_option maxHeartbeats 8000000 in
set_option maxRecDepth 100000 in
theorem grapevinelaw03_LinesBack.calls (k : Nat) (a0 : ByteArray) (A1 : Option Addr) (c1 : Nat) (l1 : List ByteArray) (r : Bool) (w : World) (hrt_ : Aside0 (r = true)) (hr1 : Kd.C Kd.string w A1 l1.length l1) (hc1 : l1.length ≤ c1) (h : grapevinelaw03_LinesBack.f k a0 l1 = some r) :
    Calls Try.prog 5 #[.string a0, .slice A1 l1.length c1] w fun e w' => e = .returned (.bool r) ∧ Below w.heap.size w w' := by
  have HR1 := Aside0.mk hr1
  have HC1 := Aside0.mk hc1
  clear hr1 hc1
  have HB := Aside0.mk (Below.refl w.heap.size w)
  have H : ((grapevinelaw03_awake.f k).bind fun t161 => ((grapevinelaw03_few.f k l1).bind fun t162 => (if (a0.size : Int) > 400 then (grapevinelaw03_LinesBack.j0 k a0 l1 t161 true) else (grapevinelaw03_LinesBack.j0 k a0 l1 t161 (!t162))))) = some r := h
  clear h
  replace H := Option.bind_eq_some_iff.mp H
  obtain ⟨t161, A30, H⟩ := H
  replace H : ((grapevinelaw03_few.f k l1).bind fun t162 => (if (a0.size : Int) > 400 then (grapevinelaw03_LinesBack.j0 k a0 l1 t161 true) else (grapevinelaw03_LinesBack.j0 k a0 l1 t161 (!t162)))) = some r := H
  have A3 := Aside0.mk A30
  clear A30
  replace H := Option.bind_eq_some_iff.mp H
  obtain ⟨t162, A40, H⟩ := H
  replace H : (if (a0.size : Int) > 400 then (grapevinelaw03_LinesBack.j0 k a0 l1 t161 true) else (grapevinelaw03_LinesBack.j0 k a0 l1 t161 (!t162))) = some r := H
  have A4 := Aside0.mk A40
  clear A40
  have HC5 := Aside0.mk H
  clear H
  go_enter Try.func5, Try.ntmps5
  go_upto_region 3 with (first | ((with_reducible refine gate_callee (f := 8) rfl ?_); refine goesL_ (some 10) rfl rfl Try.func8 (by kernel_rfl) rfl #[] rfl (by (try simp only [List.map_toArray, List.map_cons, List.map_nil]); first | done | rfl | (simp only [List.length_drop, List.length_take]; rfl)) ?_; (with_reducible refine (grapevinelaw03_awake.calls k  t161 _ A3.out).mono ?_); rintro e w6 ⟨rfl, hb⟩; refine ⟨_, rfl, ?_⟩; have n0_ := Aside0.mk (below_step (by repeat (first | (with_reducible first | exact HB.out | apply below_alloc | apply pw_below_drewN | apply below_drew1) | exact HB.out)) hb); clear HB; have HB := n0_; clear n0_; (try clear hb); (try clear hb2); (try clear hk); (try clear hi)) | ((with_reducible refine gate_callee (f := 17) rfl ?_); refine goesL_ (some 12) rfl rfl Try.func17 (by kernel_rfl) rfl #[.slice A1 l1.length c1] rfl (by (try simp only [List.map_toArray, List.map_cons, List.map_nil]); first | done | rfl | (simp only [List.length_drop, List.length_take]; rfl)) ?_; (with_reducible refine (grapevinelaw03_few.calls k _ _ l1 t162 _ ?side1 ?side2 A4.out).mono ?_); (case side1 => repeat (first | exact (Kd.C_below HR1.out HB.out) | (with_reducible refine Kd.C_alloc ?_ _) | (with_reducible refine Kd.C_drewN ?_ _) | (with_reducible refine Kd.C_drew ?_))); (case side2 => exact HC1.out); rintro e w7 ⟨rfl, hb⟩; refine ⟨_, rfl, ?_⟩; have n0_ := Aside0.mk (below_step (by repeat (first | (with_reducible first | exact HB.out | apply below_alloc | apply pw_below_drewN | apply below_drew1) | exact HB.out)) hb); clear HB; have HB := n0_; clear n0_; (try clear hb); (try clear hb2); (try clear hk); (try clear hi)))
  (try simp only [Act.put, List.setIfInBounds_toArray, List.set_cons_zero, List.set_cons_succ])
  go_cut [19] (fun v19 wc => ∃ (kq : Nat) (x19_4 : Bool), v19 = .bool x19_4 ∧ Aside0 (grapevinelaw03_LinesBack.j0 kq a0 l1 t161 x19_4 = some r) ∧ Aside0 (kq ≤ k) ∧ Aside0 (Below w.heap.size w wc))
  case first =>
    have H := HC5.out
    clear HC5
    by_cases c8 : (a0.size : Int) > 400
    · rw [if_pos c8] at H
      have c8b0 : decide (400 < (a0.size : Int)) = true := decide_eq_true c8
      have c8b1 : decide (400 < a0.size) = true := decide_eq_true (by omega)
      clear c8
      (first | rw [c8b0] | (simp only [i64_w, i32_w]; rw [c8b0]) | skip)
      have H' := Aside0.mk H
      clear H
      go_wp2
      go_meet
      case rel => exact ⟨_, (true), (by first | rfl | (simp; done) | (simp [*]; done)), H', ⟨by first | omega | exact Nat.le_refl _⟩, ⟨by repeat (first | (with_reducible first | exact HB.out | apply below_alloc | apply pw_below_drewN | apply below_drew1) | exact HB.out)⟩⟩
    · rw [if_neg c8] at H
      have c8b0 : decide (400 < (a0.size : Int)) = false := decide_eq_false c8
      have c8b1 : decide (400 < a0.size) = false := decide_eq_false (by omega)
      clear c8
      (first | rw [c8b0] | (simp only [i64_w, i32_w]; rw [c8b0]) | skip)
      have H' := Aside0.mk H
      clear H
      go_wp2
      go_meet
      case rel => exact ⟨_, (!t162), (by first | rfl | (simp; done) | (simp [*]; done)), H', ⟨by first | omega | exact Nat.le_refl _⟩, ⟨by repeat (first | (with_reducible first | exact HB.out | apply below_alloc | apply pw_below_drewN | apply below_drew1) | exact HB.out)⟩⟩
  case rest =>
    clear HC5
    try clear c1
    try clear p2
    try clear c5
    try clear c8
    try clear c8b0
    try clear c8b1
    obtain ⟨kq, x19_4, rfl, HA, HJ4, HB⟩ := hcut
    cases kq with
    | zero => exact absurd HA.out (by simp [grapevinelaw03_LinesBack.j0])
    | succ kj4 =>
      have H := HA.out
      clear HA
      simp only [grapevinelaw03_LinesBack.j0] at H
      by_cases c9 : x19_4 = true
      · subst c9
        have H1 : (some t161) = some r := by rw [if_pos rfl] at H; exact H
        clear H
        have H := H1
        clear H1
        obtain rfl := Option.some.inj H
        go_wp2
        go_ret
        exact ⟨by first | rfl | (simp [errW_none, errW_some] <;> rfl) | (simp [*, errW_none, errW_some] <;> rfl), by repeat (first | (with_reducible first | exact HB.out | apply below_alloc | apply pw_below_drewN | apply below_drew1) | exact HB.out)⟩
      · replace c9 := Bool.eq_false_iff.mpr c9
        subst c9
        have H1 : ((lines_Split.f a0).bind fun t163 => ((lines_Right.f kj4 l1).bind fun t166 => ((lines_Join.f l1).bind fun t167 => ((lines_Split.f t167).bind fun t168 => ((grapevineref01_Texts.f kj4 t168 l1).bind fun t171 => (if t161 = true then ((lines_Join.f t163).bind fun t172 => (if t172.toList = a0.toList then ((lines_Right.f kj4 t163).bind fun t173 => (if t173 = true then (some (t166 == t171)) else (some false))) else (some false))) else (some false))))))) = some r := by rw [if_neg (show ¬ (false = true) by decide)] at H; exact H
        clear H
        have H := H1
        clear H1
        replace H := Option.bind_eq_some_iff.mp H
        obtain ⟨t163, A100, H⟩ := H
        replace H : ((lines_Right.f kj4 l1).bind fun t166 => ((lines_Join.f l1).bind fun t167 => ((lines_Split.f t167).bind fun t168 => ((grapevineref01_Texts.f kj4 t168 l1).bind fun t171 => (if t161 = true then ((lines_Join.f t163).bind fun t172 => (if t172.toList = a0.toList then ((lines_Right.f kj4 t163).bind fun t173 => (if t173 = true then (some (t166 == t171)) else (some false))) else (some false))) else (some false)))))) = some r := H
        have A10 := Aside0.mk A100
        clear A100
        replace H := Option.bind_eq_some_iff.mp H
        obtain ⟨t166, A110, H⟩ := H
        replace H : ((lines_Join.f l1).bind fun t167 => ((lines_Split.f t167).bind fun t168 => ((grapevineref01_Texts.f kj4 t168 l1).bind fun t171 => (if t161 = true then ((lines_Join.f t163).bind fun t172 => (if t172.toList = a0.toList then ((lines_Right.f kj4 t163).bind fun t173 => (if t173 = true then (some (t166 == t171)) else (some false))) else (some false))) else (some false))))) = some r := H
        have A11 := Aside0.mk A110
        clear A110
        replace H := Option.bind_eq_some_iff.mp H
        obtain ⟨t167, A120, H⟩ := H
        replace H : ((lines_Split.f t167).bind fun t168 => ((grapevineref01_Texts.f kj4 t168 l1).bind fun t171 => (if t161 = true then ((lines_Join.f t163).bind fun t172 => (if t172.toList = a0.toList then ((lines_Right.f kj4 t163).bind fun t173 => (if t173 = true then (some (t166 == t171)) else (some false))) else (some false))) else (some false)))) = some r := H
        have A12 := Aside0.mk A120
        clear A120
        replace H := Option.bind_eq_some_iff.mp H
        obtain ⟨t168, A130, H⟩ := H
        replace H : ((grapevineref01_Texts.f kj4 t168 l1).bind fun t171 => (if t161 = true then ((lines_Join.f t163).bind fun t172 => (if t172.toList = a0.toList then ((lines_Right.f kj4 t163).bind fun t173 => (if t173 = true then (some (t166 == t171)) else (some false))) else (some false))) else (some false))) = some r := H
        have A13 := Aside0.mk A130
        clear A130
        replace H := Option.bind_eq_some_iff.mp H
        obtain ⟨t171, A140, H⟩ := H
        replace H : (if t161 = true then ((lines_Join.f t163).bind fun t172 => (if t172.toList = a0.toList then ((lines_Right.f kj4 t163).bind fun t173 => (if t173 = true then (some (t166 == t171)) else (some false))) else (some false))) else (some false)) = some r := H
        have A14 := Aside0.mk A140
        clear A140
        by_cases c15 : t161 = true
        · subst c15
          have H1 : ((lines_Join.f t163).bind fun t172 => (if t172.toList = a0.toList then ((lines_Right.f kj4 t163).bind fun t173 => (if t173 = true then (some (t166 == t171)) else (some false))) else (some false))) = some r := by rw [if_pos rfl] at H; exact H
          clear H
          have H := H1
          clear H1
          replace H := Option.bind_eq_some_iff.mp H
          obtain ⟨t172, A160, H⟩ := H
          replace H : (if t172.toList = a0.toList then ((lines_Right.f kj4 t163).bind fun t173 => (if t173 = true then (some (t166 == t171)) else (some false))) else (some false)) = some r := H
          have A16 := Aside0.mk A160
          clear A160
          by_cases c17 : t172.toList = a0.toList
          · rw [if_pos c17] at H
            have c17b0 : (t172.toList == a0.toList) = true := beq_iff_eq.mpr c17
            have c17b1 : (t172.toList != a0.toList) = false := bne_eq_false_iff_eq.mpr c17
            clear c17
            replace H := Option.bind_eq_some_iff.mp H
            obtain ⟨t173, A180, H⟩ := H
            replace H : (if t173 = true then (some (t166 == t171)) else (some false)) = some r := H
            have A18 := Aside0.mk A180
            clear A180
            by_cases c19 : t173 = true
            · subst c19
              have H1 : (some (t166 == t171)) = some r := by rw [if_pos rfl] at H; exact H
              clear H
              have H := H1
              clear H1
              obtain rfl := Option.some.inj H
              go_wp2_with (first | ((with_reducible refine gate_callee (f := 11) rfl ?_); refine goesL_ (some 22) rfl rfl Try.func11 (by kernel_rfl) rfl #[.string a0] rfl (by (try simp only [List.map_toArray, List.map_cons, List.map_nil]); first | done | rfl | (simp only [List.length_drop, List.length_take]; rfl)) ?_; (with_reducible refine (lines_Split.calls a0 t163 _ A10.out).mono ?_); rintro e w20 ⟨v164, rfl, ho0, hb⟩; refine ⟨_, rfl, ?_⟩; have n0_ := Aside0.mk (Kd.R_lower ho0 (below_size (by repeat (first | (with_reducible first | exact HB.out | apply below_alloc | apply pw_below_drewN | apply below_drew1) | exact HB.out)))); have n1_ := Aside0.mk (below_step (by repeat (first | (with_reducible first | exact HB.out | apply below_alloc | apply pw_below_drewN | apply below_drew1) | exact HB.out)) hb); clear HB; have HO165 := n0_; have HB := n1_; clear n0_ n1_; (try clear hb); (try clear hb2); (try clear hk); (try clear hi); (try clear ho0)) | ((with_reducible refine gate_callee (f := 20) rfl ?_); refine goesL_ (some 24) rfl rfl Try.func20 (by kernel_rfl) rfl #[.slice A1 l1.length c1] rfl (by (try simp only [List.map_toArray, List.map_cons, List.map_nil]); first | done | rfl | (simp only [List.length_drop, List.length_take]; rfl)) ?_; (with_reducible refine (lines_Right.calls kj4 _ _ l1 t166 _ ?side1 ?side2 A11.out).mono ?_); (case side1 => repeat (first | exact (Kd.C_below HR1.out HB.out) | (with_reducible refine Kd.C_alloc ?_ _) | (with_reducible refine Kd.C_drewN ?_ _) | (with_reducible refine Kd.C_drew ?_))); (case side2 => exact HC1.out); rintro e w21 ⟨rfl, hb⟩; refine ⟨_, rfl, ?_⟩; have n0_ := Aside0.mk (Kd.R_below (by (with_reducible repeat (first | apply Kd.R_alloc | apply Kd.R_drewN | apply Kd.R_drew)); exact HO165.out) hb); have n1_ := Aside0.mk (below_step (by repeat (first | (with_reducible first | exact HB.out | apply below_alloc | apply pw_below_drewN | apply below_drew1) | exact HB.out)) hb); clear HO165; clear HB; have HO165 := n0_; have HB := n1_; clear n0_ n1_; (try clear hb); (try clear hb2); (try clear hk); (try clear hi)) | ((with_reducible refine gate_callee (f := 18) rfl ?_); refine goesL_ (some 26) rfl rfl Try.func18 (by kernel_rfl) rfl #[.slice A1 l1.length c1] rfl (by (try simp only [List.map_toArray, List.map_cons, List.map_nil]); first | done | rfl | (simp only [List.length_drop, List.length_take]; rfl)) ?_; (with_reducible refine (lines_Join.calls _ _ l1 t167 _ ?side1 ?side2 A12.out).mono ?_); (case side1 => repeat (first | exact (Kd.C_below HR1.out HB.out) | (with_reducible refine Kd.C_alloc ?_ _) | (with_reducible refine Kd.C_drewN ?_ _) | (with_reducible refine Kd.C_drew ?_))); (case side2 => exact HC1.out); rintro e w22 ⟨rfl, hb⟩; refine ⟨_, rfl, ?_⟩; have n0_ := Aside0.mk (Kd.R_below (by (with_reducible repeat (first | apply Kd.R_alloc | apply Kd.R_drewN | apply Kd.R_drew)); exact HO165.out) hb); have n1_ := Aside0.mk (below_step (by repeat (first | (with_reducible first | exact HB.out | apply below_alloc | apply pw_below_drewN | apply below_drew1) | exact HB.out)) hb); clear HO165; clear HB; have HO165 := n0_; have HB := n1_; clear n0_ n1_; (try clear hb); (try clear hb2); (try clear hk); (try clear hi)) | ((with_reducible refine gate_callee (f := 11) rfl ?_); refine goesL_ (some 27) rfl rfl Try.func11 (by kernel_rfl) rfl #[.string t167] rfl (by (try simp only [List.map_toArray, List.map_cons, List.map_nil]); first | done | rfl | (simp only [List.length_drop, List.length_take]; rfl)) ?_; (with_reducible refine (lines_Split.calls t167 t168 _ A13.out).mono ?_); rintro e w23 ⟨v169, rfl, ho0, hb⟩; refine ⟨_, rfl, ?_⟩; have n0_ := Aside0.mk (Kd.R_elder' (by (with_reducible repeat (first | apply Kd.R_alloc | apply Kd.R_drewN | apply Kd.R_drew)); exact HO165.out) (Kd.R_base ho0) hb); have n1_ := Aside0.mk (Kd.R_lower (Kd.R_new' ho0 (Kd.R_lt (by (with_reducible repeat (first | apply Kd.R_alloc | apply Kd.R_drewN | apply Kd.R_drew)); exact HO165.out))) (below_size (by repeat (first | (with_reducible first | exact HB.out | apply below_alloc | apply pw_below_drewN | apply below_drew1) | exact HB.out)))); have n2_ := Aside0.mk (below_step (by repeat (first | (with_reducible first | exact HB.out | apply below_alloc | apply pw_below_drewN | apply below_drew1) | exact HB.out)) hb); clear HO165; clear HB; have HO165 := n0_; have HO170 := n1_; have HB := n2_; clear n0_ n1_ n2_; (try clear hb); (try clear hb2); (try clear hk); (try clear hi); (try clear ho0); obtain ⟨Ao24, co24, eo24⟩ := Kd.R_slice HO170.out; subst eo24) | ((with_reducible refine gate_callee (f := 10) rfl ?_); refine goesL_ (some 29) rfl rfl Try.func10 (by kernel_rfl) rfl #[.slice Ao24 t168.length co24, .slice A1 l1.length c1] rfl (by (try simp only [List.map_toArray, List.map_cons, List.map_nil]); first | done | rfl | (simp only [List.length_drop, List.length_take]; rfl)) ?_; (with_reducible refine (grapevineref01_Texts.calls kj4 _ _ t168 _ _ l1 t171 _ ?side1 ?side2 ?side3 ?side4 A14.out).mono ?_); (case side1 => repeat (first | exact (Kd.R_reads' HO170.out).2.2 | (with_reducible refine Kd.C_alloc ?_ _) | (with_reducible refine Kd.C_drewN ?_ _) | (with_reducible refine Kd.C_drew ?_))); (case side2 => exact (Kd.R_reads' HO170.out).2.1); (case side3 => repeat (first | exact (Kd.C_below HR1.out HB.out) | (with_reducible refine Kd.C_alloc ?_ _) | (with_reducible refine Kd.C_drewN ?_ _) | (with_reducible refine Kd.C_drew ?_))); (case side4 => exact HC1.out); rintro e w' ⟨rfl, ⟨nd, rfl⟩⟩; refine ⟨_, rfl, ?_⟩; obtain ⟨Ao25, co25, eo25⟩ := Kd.R_slice HO165.out; subst eo25) | (go_at_call 18; (with_reducible refine (lines_Join.calls _ _ t163 t172 _ ?side1 ?side2 A16.out).mono ?_); (case side1 => repeat (first | exact (Kd.R_reads' HO165.out).2.2 | (with_reducible refine Kd.C_alloc ?_ _) | (with_reducible refine Kd.C_drewN ?_ _) | (with_reducible refine Kd.C_drew ?_))); (case side2 => exact (Kd.R_reads' HO165.out).2.1); rintro e w26 ⟨rfl, hb⟩; have n0_ := Aside0.mk (Kd.R_below (by (with_reducible repeat (first | apply Kd.R_alloc | apply Kd.R_drewN | apply Kd.R_drew)); exact HO165.out) hb); have n1_ := Aside0.mk (Kd.R_below (by (with_reducible repeat (first | apply Kd.R_alloc | apply Kd.R_drewN | apply Kd.R_drew)); exact HO170.out) hb); have n2_ := Aside0.mk (below_step (by repeat (first | (with_reducible first | exact HB.out | apply below_alloc | apply pw_below_drewN | apply below_drew1) | exact HB.out)) hb); clear HO165; clear HO170; clear HB; have HO165 := n0_; have HO170 := n1_; have HB := n2_; clear n0_ n1_ n2_; (try clear hb); (try clear hb2); (try clear hk); (try clear hi)) | (go_at_call 20; (with_reducible refine (lines_Right.calls kj4 _ _ t163 true _ ?side1 ?side2 A18.out).mono ?_); (case side1 => repeat (first | exact (Kd.R_reads' HO165.out).2.2 | (with_reducible refine Kd.C_alloc ?_ _) | (with_reducible refine Kd.C_drewN ?_ _) | (with_reducible refine Kd.C_drew ?_))); (case side2 => exact (Kd.R_reads' HO165.out).2.1); rintro e w27 ⟨rfl, hb⟩; have n0_ := Aside0.mk (Kd.R_below (by (with_reducible repeat (first | apply Kd.R_alloc | apply Kd.R_drewN | apply Kd.R_drew)); exact HO165.out) hb); have n1_ := Aside0.mk (Kd.R_below (by (with_reducible repeat (first | apply Kd.R_alloc | apply Kd.R_drewN | apply Kd.R_drew)); exact HO170.out) hb); have n2_ := Aside0.mk (below_step (by repeat (first | (with_reducible first | exact HB.out | apply below_alloc | apply pw_below_drewN | apply below_drew1) | exact HB.out)) hb); clear HO165; clear HO170; clear HB; have HO165 := n0_; have HO170 := n1_; have HB := n2_; clear n0_ n1_ n2_; (try clear hb); (try clear hb2); (try clear hk); (try clear hi)))
              go_ret
              exact ⟨by first | rfl | (simp [errW_none, errW_some] <;> rfl) | (simp [*, errW_none, errW_some] <;> rfl), by repeat (first | (with_reducible first | exact HB.out | apply below_alloc | apply pw_below_drewN | apply below_drew1) | exact HB.out)⟩
            · replace c19 := Bool.eq_false_iff.mpr c19
              subst c19
              have H1 : (some false) = some r := by rw [if_neg (show ¬ (false = true) by decide)] at H; exact H
              clear H
              have H := H1
              clear H1
              exact absurd (H.trans (congrArg some hrt_.out)) (by simp)
          · rw [if_neg c17] at H
            have c17b0 : (t172.toList == a0.toList) = false := beq_eq_false_iff_ne.mpr c17
            have c17b1 : (t172.toList != a0.toList) = true := bne_iff_ne.mpr c17
            exact absurd (H.trans (congrArg some hrt_.out)) (by simp)
        · replace c15 := Bool.eq_false_iff.mpr c15
          subst c15
          have H1 : (some false) = some r := by rw [if_neg (show ¬ (false = true) by decide)] at H; exact H
          clear H
          have H := H1
          clear H1
          exact absurd (H.trans (congrArg some hrt_.out)) (by simp)

end Go.Proofs.Ytplclofakoffmaa.Pr
