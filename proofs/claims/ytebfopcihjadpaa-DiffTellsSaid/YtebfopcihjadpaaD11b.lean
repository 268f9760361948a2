-- written by a program of this session's (a turned copy of the kit's printer); Lean checks it
import Derived.Test.YtebfopcihjadpaaD0
import Derived.Test.YtebfopcihjadpaaGAwake
import Derived.Test.YtebfopcihjadpaaGDiff
import Derived.Test.YtebfopcihjadpaaD1c
namespace Go.Proofs.Ytebfopcihjadpaa.Pr
open Go.RowKit Go.Proofs.YtebfopcihjadpaaW.PrintWords Go.Proofs.YtebfopcihjadpaaW.PrintLast Go.Proofs.YtebfopcihjadpaaW.PrintMore
attribute [local go_sem] max2_int min2_int max_two min_two max_three min_three max_four min_four   -- for this text's walks alone
set_option linter.unusedVariables false
set_option linter.unusedSimpArgs false

/-! ### grapevinelaw04_DiffChain: function 11 -/
def grapevinelaw04_DiffChain.j0 : Nat → List ByteArray → List ByteArray → List ByteArray → Bool → Bool → Option (Bool)
  | 0, _, _, _, _, _ => none
  | k + 1, x0, x1, x2, x7, x21 => if x21 = true then (some x7) else (if x7 = true then ((diff_Diff.f x0 x2).bind fun t352 => ((diff_Size.f k t352).bind fun t355 => ((diff_Diff.f x0 x1).bind fun t356 => ((diff_Size.f k t356).bind fun t359 => ((diff_Diff.f x1 x2).bind fun t360 => ((diff_Size.f k t360).bind fun t363 => (some (decide (t355 ≤ (wrap64 (t359 + t363))))))))))) else (some false))
def grapevinelaw04_DiffChain.f (k : Nat) (l0 : List ByteArray) (l1 : List ByteArray) (l2 : List ByteArray) : Option (Bool) := (grapevinelaw04_awake.f).bind fun t351 => (if (l0.length : Int) > 30 then (grapevinelaw04_DiffChain.j0 k l0 l1 l2 t351 true) else (if (l1.length : Int) > 30 then (grapevinelaw04_DiffChain.j0 k l0 l1 l2 t351 true) else (grapevinelaw04_DiffChain.j0 k l0 l1 l2 t351 (decide ((l2.length : Int) > 30)))))
theorem grapevinelaw04_DiffChain.mono_l : ∀ k, (∀ y0 y1 y2 y3 y4, LeO (grapevinelaw04_DiffChain.j0 k y0 y1 y2 y3 y4) (grapevinelaw04_DiffChain.j0 (k + 1) y0 y1 y2 y3 y4))
  | 0 => fun _ _ _ _ _ r h => by simp [grapevinelaw04_DiffChain.j0] at h
  | k + 1 => by
    have ih0 := grapevinelaw04_DiffChain.mono_l k
    · intro y0 y1 y2 y3 y4
      unfold grapevinelaw04_DiffChain.j0
      repeat' first
      | (with_reducible exact ih0 _ _ _ _ _)
      | (with_reducible exact diff_Size.mono _ _)
      | (with_reducible exact LeO.refl _)
      | (with_reducible exact LeO.none _)
      | (with_reducible refine LeO.ite ?_ ?_)
      | (with_reducible refine LeO.bind ?_ (fun _ => ?_))
      | exact ih0 _ _ _ _ _
      | exact diff_Size.mono _ _
      | exact LeO.none _
      | refine LeO.ite ?_ ?_
      | refine LeO.bind ?_ (fun _ => ?_)
theorem grapevinelaw04_DiffChain.mono : ∀ a0 a1 a2 k, LeO (grapevinelaw04_DiffChain.f k a0 a1 a2) (grapevinelaw04_DiffChain.f (k + 1) a0 a1 a2) := by
  intro a0 a1 a2 k
  have ih0 := grapevinelaw04_DiffChain.mono_l k
  unfold grapevinelaw04_DiffChain.f
  repeat' first
      | (with_reducible exact ih0 _ _ _ _ _)
      | (with_reducible exact diff_Size.mono _ _)
      | (with_reducible exact LeO.refl _)
      | (with_reducible exact LeO.none _)
      | (with_reducible refine LeO.ite ?_ ?_)
      | (with_reducible refine LeO.bind ?_ (fun _ => ?_))
      | exact ih0 _ _ _ _ _
      | exact diff_Size.mono _ _
      | exact LeO.none _
      | refine LeO.ite ?_ ?_
      | refine LeO.bind ?_ (fun _ => ?_)
set_option maxHeartbeats 8000000 in
set_option maxRecDepth 100000 in
theorem grapevinelaw04_DiffChain.calls (k : Nat) (A0 : Option Addr) (c0 : Nat) (l0 : List ByteArray) (A1 : Option Addr) (c1 : Nat) (l1 : List ByteArray) (A2 : Option Addr) (c2 : Nat) (l2 : List ByteArray) (r : Bool) (w : World) (hrt_ : Aside0 (r = true)) (hr0 : Kd.C Kd.string w A0 l0.length l0) (hc0 : l0.length ≤ c0) (hr1 : Kd.C Kd.string w A1 l1.length l1) (hc1 : l1.length ≤ c1) (hr2 : Kd.C Kd.string w A2 l2.length l2) (hc2 : l2.length ≤ c2) (h : grapevinelaw04_DiffChain.f k l0 l1 l2 = some r) :
    Calls Try.prog 11 #[.slice A0 l0.length c0, .slice A1 l1.length c1, .slice A2 l2.length c2] w fun e w' => e = .returned (.bool r) ∧ Below w.heap.size w w' := by
  have HR0 := Aside0.mk hr0
  have HC0 := Aside0.mk hc0
  clear hr0 hc0
  have HR1 := Aside0.mk hr1
  have HC1 := Aside0.mk hc1
  clear hr1 hc1
  have HR2 := Aside0.mk hr2
  have HC2 := Aside0.mk hc2
  clear hr2 hc2
  have HB := Aside0.mk (Below.refl w.heap.size w)
  have H : ((grapevinelaw04_awake.f).bind fun t351 => (if (l0.length : Int) > 30 then (grapevinelaw04_DiffChain.j0 k l0 l1 l2 t351 true) else (if (l1.length : Int) > 30 then (grapevinelaw04_DiffChain.j0 k l0 l1 l2 t351 true) else (grapevinelaw04_DiffChain.j0 k l0 l1 l2 t351 (decide ((l2.length : Int) > 30)))))) = some r := h
  clear h
  replace H := Option.bind_eq_some_iff.mp H
  obtain ⟨t351, A40, H⟩ := H
  replace H : (if (l0.length : Int) > 30 then (grapevinelaw04_DiffChain.j0 k l0 l1 l2 t351 true) else (if (l1.length : Int) > 30 then (grapevinelaw04_DiffChain.j0 k l0 l1 l2 t351 true) else (grapevinelaw04_DiffChain.j0 k l0 l1 l2 t351 (decide ((l2.length : Int) > 30))))) = some r := H
  have A4 := Aside0.mk A40
  clear A40
  have HC5 := Aside0.mk H
  clear H
  go_enter Try.func11, Try.ntmps11
  go_upto_region 2 with (first | ((with_reducible refine gate_callee (f := 13) rfl ?_); refine goesL_ (some 8) rfl rfl Try.func13 (by kernel_rfl) rfl #[] rfl (by (try simp only [List.map_toArray, List.map_cons, List.map_nil]); first | done | rfl | (simp only [List.length_drop, List.length_take]; rfl)) ?_; (with_reducible refine (grapevinelaw04_awake.calls  t351 _ A4.out).mono ?_); rintro e w6 ⟨rfl, hb⟩; refine ⟨_, rfl, ?_⟩; have n0_ := Aside0.mk (below_step (by repeat (first | (with_reducible first | exact HB.out | apply below_alloc | apply pw_below_drewN | apply below_drew1) | exact HB.out)) hb); clear HB; have HB := n0_; clear n0_; (try clear hb); (try clear hb2); (try clear hk); (try clear hi)))
  (try simp only [Act.put, List.setIfInBounds_toArray, List.set_cons_zero, List.set_cons_succ])
  go_cut [21] (fun v21 wc => ∃ (kq : Nat) (x21_4 : Bool), v21 = .bool x21_4 ∧ Aside0 (grapevinelaw04_DiffChain.j0 kq l0 l1 l2 t351 x21_4 = some r) ∧ Aside0 (kq ≤ k) ∧ Aside0 (Below w.heap.size w wc))
  case first =>
    have H := HC5.out
    clear HC5
    by_cases c7 : (l0.length : Int) > 30
    · rw [if_pos c7] at H
      have c7b0 : decide (30 < (l0.length : Int)) = true := decide_eq_true c7
      have c7b1 : decide (30 < l0.length) = true := decide_eq_true (by omega)
      clear c7
      (first | rw [c7b0] | (simp only [i64_w, i32_w]; rw [c7b0]) | skip)
      have H' := Aside0.mk H
      clear H
      go_wp2
      go_meet
      case rel => exact ⟨_, (true), (by first | rfl | (simp; done) | (simp [*]; done)), H', ⟨by first | omega | exact Nat.le_refl _⟩, ⟨by repeat (first | (with_reducible first | exact HB.out | apply below_alloc | apply pw_below_drewN | apply below_drew1) | exact HB.out)⟩⟩
    · rw [if_neg c7] at H
      have c7b0 : decide (30 < (l0.length : Int)) = false := decide_eq_false c7
      have c7b1 : decide (30 < l0.length) = false := decide_eq_false (by omega)
      clear c7
      (first | rw [c7b0] | (simp only [i64_w, i32_w]; rw [c7b0]) | skip)
      by_cases c8 : (l1.length : Int) > 30
      · rw [if_pos c8] at H
        have c8b0 : decide (30 < (l1.length : Int)) = true := decide_eq_true c8
        have c8b1 : decide (30 < l1.length) = true := decide_eq_true (by omega)
        clear c8
        have H' := Aside0.mk H
        clear H
        go_wp2
        go_meet
        case rel => exact ⟨_, (true), (by first | rfl | (simp; done) | (simp [*]; done)), H', ⟨by first | omega | exact Nat.le_refl _⟩, ⟨by repeat (first | (with_reducible first | exact HB.out | apply below_alloc | apply pw_below_drewN | apply below_drew1) | exact HB.out)⟩⟩
      · rw [if_neg c8] at H
        have c8b0 : decide (30 < (l1.length : Int)) = false := decide_eq_false c8
        have c8b1 : decide (30 < l1.length) = false := decide_eq_false (by omega)
        clear c8
        have H' := Aside0.mk H
        clear H
        go_wp2
        go_meet
        case rel => exact ⟨_, (decide ((l2.length : Int) > 30)), (by first | rfl | (simp; done) | (simp [*]; done)), H', ⟨by first | omega | exact Nat.le_refl _⟩, ⟨by repeat (first | (with_reducible first | exact HB.out | apply below_alloc | apply pw_below_drewN | apply below_drew1) | exact HB.out)⟩⟩
  case rest =>
    clear HC5
    try clear c1
    try clear c2
    try clear p2
    try clear c7
    try clear c7b0
    try clear c7b1
    try clear c8
    try clear c8b0
    try clear c8b1
    obtain ⟨kq, x21_4, rfl, HA, HJ4, HB⟩ := hcut
    cases kq with
    | zero => exact absurd HA.out (by simp [grapevinelaw04_DiffChain.j0])
    | succ kj4 =>
      have H := HA.out
      clear HA
      simp only [grapevinelaw04_DiffChain.j0] at H
      by_cases c9 : x21_4 = true
      · subst c9
        have H1 : (some t351) = some r := by rw [if_pos rfl] at H; exact H
        clear H
        have H := H1
        clear H1
        obtain rfl := Option.some.inj H
        go_wp2
        go_ret
        exact ⟨by first | rfl | (simp [errW_none, errW_some] <;> rfl) | (simp [*, errW_none, errW_some] <;> rfl), by repeat (first | (with_reducible first | exact HB.out | apply below_alloc | apply pw_below_drewN | apply below_drew1) | exact HB.out)⟩
      · replace c9 := Bool.eq_false_iff.mpr c9
        subst c9
        have H1 : (if t351 = true then ((diff_Diff.f l0 l2).bind fun t352 => ((diff_Size.f kj4 t352).bind fun t355 => ((diff_Diff.f l0 l1).bind fun t356 => ((diff_Size.f kj4 t356).bind fun t359 => ((diff_Diff.f l1 l2).bind fun t360 => ((diff_Size.f kj4 t360).bind fun t363 => (some (decide (t355 ≤ (wrap64 (t359 + t363))))))))))) else (some false)) = some r := by rw [if_neg (show ¬ (false = true) by decide)] at H; exact H
        clear H
        have H := H1
        clear H1
        by_cases c10 : t351 = true
        · subst c10
          have H1 : ((diff_Diff.f l0 l2).bind fun t352 => ((diff_Size.f kj4 t352).bind fun t355 => ((diff_Diff.f l0 l1).bind fun t356 => ((diff_Size.f kj4 t356).bind fun t359 => ((diff_Diff.f l1 l2).bind fun t360 => ((diff_Size.f kj4 t360).bind fun t363 => (some (decide (t355 ≤ (wrap64 (t359 + t363))))))))))) = some r := by rw [if_pos rfl] at H; exact H
          clear H
          have H := H1
          clear H1
          replace H := Option.bind_eq_some_iff.mp H
          obtain ⟨t352, A110, H⟩ := H
          replace H : ((diff_Size.f kj4 t352).bind fun t355 => ((diff_Diff.f l0 l1).bind fun t356 => ((diff_Size.f kj4 t356).bind fun t359 => ((diff_Diff.f l1 l2).bind fun t360 => ((diff_Size.f kj4 t360).bind fun t363 => (some (decide (t355 ≤ (wrap64 (t359 + t363)))))))))) = some r := H
          have A11 := Aside0.mk A110
          clear A110
          replace H := Option.bind_eq_some_iff.mp H
          obtain ⟨t355, A120, H⟩ := H
          replace H : ((diff_Diff.f l0 l1).bind fun t356 => ((diff_Size.f kj4 t356).bind fun t359 => ((diff_Diff.f l1 l2).bind fun t360 => ((diff_Size.f kj4 t360).bind fun t363 => (some (decide (t355 ≤ (wrap64 (t359 + t363))))))))) = some r := H
          have A12 := Aside0.mk A120
          clear A120
          replace H := Option.bind_eq_some_iff.mp H
          obtain ⟨t356, A130, H⟩ := H
          replace H : ((diff_Size.f kj4 t356).bind fun t359 => ((diff_Diff.f l1 l2).bind fun t360 => ((diff_Size.f kj4 t360).bind fun t363 => (some (decide (t355 ≤ (wrap64 (t359 + t363)))))))) = some r := H
          have A13 := Aside0.mk A130
          clear A130
          replace H := Option.bind_eq_some_iff.mp H
          obtain ⟨t359, A140, H⟩ := H
          replace H : ((diff_Diff.f l1 l2).bind fun t360 => ((diff_Size.f kj4 t360).bind fun t363 => (some (decide (t355 ≤ (wrap64 (t359 + t363))))))) = some r := H
          have A14 := Aside0.mk A140
          clear A140
          replace H := Option.bind_eq_some_iff.mp H
          obtain ⟨t360, A150, H⟩ := H
          replace H : ((diff_Size.f kj4 t360).bind fun t363 => (some (decide (t355 ≤ (wrap64 (t359 + t363)))))) = some r := H
          have A15 := Aside0.mk A150
          clear A150
          replace H := Option.bind_eq_some_iff.mp H
          obtain ⟨t363, A160, H⟩ := H
          replace H : (some (decide (t355 ≤ (wrap64 (t359 + t363))))) = some r := H
          have A16 := Aside0.mk A160
          clear A160
          obtain rfl := Option.some.inj H
          go_wp2_with (first | (go_at_call 15; (with_reducible refine (diff_Diff.calls _ _ l0 _ _ l2 t352 _ ?side1 ?side2 ?side3 ?side4 A11.out).mono ?_); (case side1 => repeat (first | exact (Kd.C_below HR0.out HB.out) | (with_reducible refine Kd.C_alloc ?_ _) | (with_reducible refine Kd.C_drewN ?_ _) | (with_reducible refine Kd.C_drew ?_))); (case side2 => exact HC0.out); (case side3 => repeat (first | exact (Kd.C_below HR2.out HB.out) | (with_reducible refine Kd.C_alloc ?_ _) | (with_reducible refine Kd.C_drewN ?_ _) | (with_reducible refine Kd.C_drew ?_))); (case side4 => exact HC2.out); rintro e w17 ⟨v353, rfl, ho0, hb⟩; have n0_ := Aside0.mk (Kd.S_lower ho0 (below_size (by repeat (first | (with_reducible first | exact HB.out | apply below_alloc | apply pw_below_drewN | apply below_drew1) | exact HB.out)))); have n1_ := Aside0.mk (below_step (by repeat (first | (with_reducible first | exact HB.out | apply below_alloc | apply pw_below_drewN | apply below_drew1) | exact HB.out)) hb); clear HB; have HO354 := n0_; have HB := n1_; clear n0_ n1_; (try clear hb); (try clear hb2); (try clear hk); (try clear hi); (try clear ho0); obtain ⟨Ao18, co18, eo18⟩ := Kd.S_slice HO354.out; subst eo18) | (go_at_call 21; (with_reducible refine (diff_Size.calls kj4 _ _ t352 t355 _ ?side1 ?side2 A12.out).mono ?_); (case side1 => repeat (first | exact (Kd.S_reads' HO354.out).2.2 | (with_reducible refine Kd.C_alloc ?_ _) | (with_reducible refine Kd.C_drewN ?_ _) | (with_reducible refine Kd.C_drew ?_))); (case side2 => exact (Kd.S_reads' HO354.out).2.1); rintro e w19 ⟨rfl, hb⟩; have n0_ := Aside0.mk (Kd.S_below (by (with_reducible repeat (first | apply Kd.S_alloc | apply Kd.S_drewN | apply Kd.S_drew)); exact HO354.out) hb); have n1_ := Aside0.mk (below_step (by repeat (first | (with_reducible first | exact HB.out | apply below_alloc | apply pw_below_drewN | apply below_drew1) | exact HB.out)) hb); clear HO354; clear HB; have HO354 := n0_; have HB := n1_; clear n0_ n1_; (try clear hb); (try clear hb2); (try clear hk); (try clear hi)) | (go_at_call 15; (with_reducible refine (diff_Diff.calls _ _ l0 _ _ l1 t356 _ ?side1 ?side2 ?side3 ?side4 A13.out).mono ?_); (case side1 => repeat (first | exact (Kd.C_below HR0.out HB.out) | (with_reducible refine Kd.C_alloc ?_ _) | (with_reducible refine Kd.C_drewN ?_ _) | (with_reducible refine Kd.C_drew ?_))); (case side2 => exact HC0.out); (case side3 => repeat (first | exact (Kd.C_below HR1.out HB.out) | (with_reducible refine Kd.C_alloc ?_ _) | (with_reducible refine Kd.C_drewN ?_ _) | (with_reducible refine Kd.C_drew ?_))); (case side4 => exact HC1.out); rintro e w20 ⟨v357, rfl, ho0, hb⟩; have n0_ := Aside0.mk (Kd.S_elder' (by (with_reducible repeat (first | apply Kd.S_alloc | apply Kd.S_drewN | apply Kd.S_drew)); exact HO354.out) (Kd.S_base ho0) hb); have n1_ := Aside0.mk (Kd.S_lower (Kd.S_new' ho0 (Kd.S_lt (by (with_reducible repeat (first | apply Kd.S_alloc | apply Kd.S_drewN | apply Kd.S_drew)); exact HO354.out))) (below_size (by repeat (first | (with_reducible first | exact HB.out | apply below_alloc | apply pw_below_drewN | apply below_drew1) | exact HB.out)))); have n2_ := Aside0.mk (below_step (by repeat (first | (with_reducible first | exact HB.out | apply below_alloc | apply pw_below_drewN | apply below_drew1) | exact HB.out)) hb); clear HO354; clear HB; have HO354 := n0_; have HO358 := n1_; have HB := n2_; clear n0_ n1_ n2_; (try clear hb); (try clear hb2); (try clear hk); (try clear hi); (try clear ho0); obtain ⟨Ao21, co21, eo21⟩ := Kd.S_slice HO358.out; subst eo21) | (go_at_call 21; (with_reducible refine (diff_Size.calls kj4 _ _ t356 t359 _ ?side1 ?side2 A14.out).mono ?_); (case side1 => repeat (first | exact (Kd.S_reads' HO358.out).2.2 | (with_reducible refine Kd.C_alloc ?_ _) | (with_reducible refine Kd.C_drewN ?_ _) | (with_reducible refine Kd.C_drew ?_))); (case side2 => exact (Kd.S_reads' HO358.out).2.1); rintro e w22 ⟨rfl, hb⟩; have n0_ := Aside0.mk (Kd.S_below (by (with_reducible repeat (first | apply Kd.S_alloc | apply Kd.S_drewN | apply Kd.S_drew)); exact HO354.out) hb); have n1_ := Aside0.mk (Kd.S_below (by (with_reducible repeat (first | apply Kd.S_alloc | apply Kd.S_drewN | apply Kd.S_drew)); exact HO358.out) hb); have n2_ := Aside0.mk (below_step (by repeat (first | (with_reducible first | exact HB.out | apply below_alloc | apply pw_below_drewN | apply below_drew1) | exact HB.out)) hb); clear HO354; clear HO358; clear HB; have HO354 := n0_; have HO358 := n1_; have HB := n2_; clear n0_ n1_ n2_; (try clear hb); (try clear hb2); (try clear hk); (try clear hi)) | (go_at_call 15; (with_reducible refine (diff_Diff.calls _ _ l1 _ _ l2 t360 _ ?side1 ?side2 ?side3 ?side4 A15.out).mono ?_); (case side1 => repeat (first | exact (Kd.C_below HR1.out HB.out) | (with_reducible refine Kd.C_alloc ?_ _) | (with_reducible refine Kd.C_drewN ?_ _) | (with_reducible refine Kd.C_drew ?_))); (case side2 => exact HC1.out); (case side3 => repeat (first | exact (Kd.C_below HR2.out HB.out) | (with_reducible refine Kd.C_alloc ?_ _) | (with_reducible refine Kd.C_drewN ?_ _) | (with_reducible refine Kd.C_drew ?_))); (case side4 => exact HC2.out); rintro e w23 ⟨v361, rfl, ho0, hb⟩; have n0_ := Aside0.mk (Kd.S_elder' (by (with_reducible repeat (first | apply Kd.S_alloc | apply Kd.S_drewN | apply Kd.S_drew)); exact HO354.out) (Kd.S_base ho0) hb); have n1_ := Aside0.mk (Kd.S_elder' (by (with_reducible repeat (first | apply Kd.S_alloc | apply Kd.S_drewN | apply Kd.S_drew)); exact HO358.out) (Kd.S_base ho0) hb); have n2_ := Aside0.mk (Kd.S_lower (Kd.S_new' (Kd.S_new' ho0 (Kd.S_lt (by (with_reducible repeat (first | apply Kd.S_alloc | apply Kd.S_drewN | apply Kd.S_drew)); exact HO354.out))) (Kd.S_lt (by (with_reducible repeat (first | apply Kd.S_alloc | apply Kd.S_drewN | apply Kd.S_drew)); exact HO358.out))) (below_size (by repeat (first | (with_reducible first | exact HB.out | apply below_alloc | apply pw_below_drewN | apply below_drew1) | exact HB.out)))); have n3_ := Aside0.mk (below_step (by repeat (first | (with_reducible first | exact HB.out | apply below_alloc | apply pw_below_drewN | apply below_drew1) | exact HB.out)) hb); clear HO354; clear HO358; clear HB; have HO354 := n0_; have HO358 := n1_; have HO362 := n2_; have HB := n3_; clear n0_ n1_ n2_ n3_; (try clear hb); (try clear hb2); (try clear hk); (try clear hi); (try clear ho0); obtain ⟨Ao24, co24, eo24⟩ := Kd.S_slice HO362.out; subst eo24) | (go_at_call 21; (with_reducible refine (diff_Size.calls kj4 _ _ t360 t363 _ ?side1 ?side2 A16.out).mono ?_); (case side1 => repeat (first | exact (Kd.S_reads' HO362.out).2.2 | (with_reducible refine Kd.C_alloc ?_ _) | (with_reducible refine Kd.C_drewN ?_ _) | (with_reducible refine Kd.C_drew ?_))); (case side2 => exact (Kd.S_reads' HO362.out).2.1); rintro e w25 ⟨rfl, hb⟩; have n0_ := Aside0.mk (Kd.S_below (by (with_reducible repeat (first | apply Kd.S_alloc | apply Kd.S_drewN | apply Kd.S_drew)); exact HO354.out) hb); have n1_ := Aside0.mk (Kd.S_below (by (with_reducible repeat (first | apply Kd.S_alloc | apply Kd.S_drewN | apply Kd.S_drew)); exact HO358.out) hb); have n2_ := Aside0.mk (Kd.S_below (by (with_reducible repeat (first | apply Kd.S_alloc | apply Kd.S_drewN | apply Kd.S_drew)); exact HO362.out) hb); have n3_ := Aside0.mk (below_step (by repeat (first | (with_reducible first | exact HB.out | apply below_alloc | apply pw_below_drewN | apply below_drew1) | exact HB.out)) hb); clear HO354; clear HO358; clear HO362; clear HB; have HO354 := n0_; have HO358 := n1_; have HO362 := n2_; have HB := n3_; clear n0_ n1_ n2_ n3_; (try clear hb); (try clear hb2); (try clear hk); (try clear hi)))
          go_ret
          exact ⟨by first | rfl | (simp [errW_none, errW_some] <;> rfl) | (simp [*, errW_none, errW_some] <;> rfl), by repeat (first | (with_reducible first | exact HB.out | apply below_alloc | apply pw_below_drewN | apply below_drew1) | exact HB.out)⟩
        · replace c10 := Bool.eq_false_iff.mpr c10
          subst c10
          have H1 : (some false) = some r := by rw [if_neg (show ¬ (false = true) by decide)] at H; exact H
          clear H
          have H := H1
          clear H1
          exact absurd (H.trans (congrArg some hrt_.out)) (by simp)

end Go.Proofs.Ytebfopcihjadpaa.Pr
