-- written by a program of this session's (a turned copy of the kit's printer); Lean checks it
import Derived.Test.YtlabiajcohmjhaaD0
import Derived.Test.YtlabiajcohmjhaaGAwakeH
import Derived.Test.YtlabiajcohmjhaaGDiff
import Derived.Test.YtlabiajcohmjhaaD12b
import Derived.Test.YtlabiajcohmjhaaD3a
import Derived.Test.YtlabiajcohmjhaaD6a
namespace Go.Proofs.Ytlabiajcohmjhaa.Pr
open Go.RowKit Go.Proofs.YtlabiajcohmjhaaW.PrintWords Go.Proofs.YtlabiajcohmjhaaW.PrintLast Go.Proofs.YtlabiajcohmjhaaW.PrintMore
attribute [local go_sem] max2_int min2_int max_two min_two max_three min_three max_four min_four   -- for this text's walks alone
set_option linter.unusedVariables false
set_option linter.unusedSimpArgs false

mutual
def grapevinelaw05_HunkFewer.j0 : Nat → List ByteArray → List ByteArray → Int → Int → Bool → Bool → Option (Bool)
 | 0, _, _, _, _, _, _ => none
 | k + 1, x0, x1, x2, x3, x9, x29 => if x29 = true then (some x9) else ((diff_Diff.f x0 x1).bind fun t441 => ((hunk_Make.f k x0 t441 (wrap64 (Int.tmod x2 51))).bind fun bt444 => ((hunk_Make.f k x0 t441 (mx (wrap64 (Int.tmod x2 51)) (wrap64 (Int.tmod x3 51)))).bind fun bt448 => (grapevinelaw05_HunkFewer.l0 k x9 t441 bt444.1 bt444.2 bt448.1 bt448.2 0 0))))
def grapevinelaw05_HunkFewer.l0 : Nat → Bool → List (S51) → List (S33) → Int → List (S33) → Int → Int → Int → Option (Bool)
 | 0, _, _, _, _, _, _, _, _ => none
 | k + 1, x9, x10, x13, x14, x15, x16, x17, x18 => if x18 < (x13.length : Int) then (if 0 ≤ x18 then ((hunk_Edits.f k ((rd_T33 x13 x18).f0) ((rd_T33 x13 x18).f1) ((rd_T33 x13 x18).f2) ((rd_T33 x13 x18).f3) ((rd_T33 x13 x18).f4)).bind fun t453 => ((diff_Size.f k t453).bind fun t456 => (grapevinelaw05_HunkFewer.l0 k x9 x10 x13 x14 x15 x16 (wrap64 (x17 + t456)) (wrap64 (x18 + 1))))) else (none)) else (grapevinelaw05_HunkFewer.l1 k x9 x10 x13 x14 x15 x16 x17 0 0)
def grapevinelaw05_HunkFewer.l1 : Nat → Bool → List (S51) → List (S33) → Int → List (S33) → Int → Int → Int → Int → Option (Bool)
 | 0, _, _, _, _, _, _, _, _, _ => none
 | k + 1, x9, x10, x13, x14, x15, x16, x17, x19, x20 => if x20 < (x15.length : Int) then (if 0 ≤ x20 then ((hunk_Edits.f k ((rd_T33 x15 x20).f0) ((rd_T33 x15 x20).f1) ((rd_T33 x15 x20).f2) ((rd_T33 x15 x20).f3) ((rd_T33 x15 x20).f4)).bind fun t458 => ((diff_Size.f k t458).bind fun t461 => (grapevinelaw05_HunkFewer.l1 k x9 x10 x13 x14 x15 x16 x17 (wrap64 (x19 + t461)) (wrap64 (x20 + 1))))) else (none)) else (if x9 = true then (if x14 = 0 then (if x16 = 0 then (if (x15.length : Int) ≤ (x13.length : Int) then (if x17 = x19 then ((diff_Size.f k x10).bind fun t462 => (if x17 = t462 then (if (((x13.length : Int) == 0) == ((x10.length : Int) == 0)) = true then (some (((x15.length : Int) == 0) == ((x10.length : Int) == 0))) else (some false)) else (some false))) else (some false)) else (some false)) else (some false)) else (some false)) else (some false))
end
def grapevinelaw05_HunkFewer.f (k : Nat) (l0 : List ByteArray) (l1 : List ByteArray) (a2 : Int) (a3 : Int) : Option (Bool) := (grapevinelaw05_awake.f).bind fun t440 => (if (l0.length : Int) > 40 then (grapevinelaw05_HunkFewer.j0 k l0 l1 a2 a3 t440 true) else (grapevinelaw05_HunkFewer.j0 k l0 l1 a2 a3 t440 (decide ((l1.length : Int) > 40))))
theorem grapevinelaw05_HunkFewer.mono_l : ∀ k, (∀ y0 y1 y2 y3 y4 y5, LeO (grapevinelaw05_HunkFewer.j0 k y0 y1 y2 y3 y4 y5) (grapevinelaw05_HunkFewer.j0 (k + 1) y0 y1 y2 y3 y4 y5)) ∧ (∀ y0 y1 y2 y3 y4 y5 y6 y7, LeO (grapevinelaw05_HunkFewer.l0 k y0 y1 y2 y3 y4 y5 y6 y7) (grapevinelaw05_HunkFewer.l0 (k + 1) y0 y1 y2 y3 y4 y5 y6 y7)) ∧ (∀ y0 y1 y2 y3 y4 y5 y6 y7 y8, LeO (grapevinelaw05_HunkFewer.l1 k y0 y1 y2 y3 y4 y5 y6 y7 y8) (grapevinelaw05_HunkFewer.l1 (k + 1) y0 y1 y2 y3 y4 y5 y6 y7 y8))
 | 0 => ⟨fun _ _ _ _ _ _ r h => by simp [grapevinelaw05_HunkFewer.j0] at h, fun _ _ _ _ _ _ _ _ r h => by simp [grapevinelaw05_HunkFewer.l0] at h, fun _ _ _ _ _ _ _ _ _ r h => by simp [grapevinelaw05_HunkFewer.l1] at h⟩
 | k + 1 => by
  obtain ⟨ih0, ih1, ih2⟩ := grapevinelaw05_HunkFewer.mono_l k
  refine ⟨?_, ?_, ?_⟩
  ·intro y0 y1 y2 y3 y4 y5
   unfold grapevinelaw05_HunkFewer.j0
   repeat' first
   | (with_reducible exact ih0 _ _ _ _ _ _)
   | (with_reducible exact ih1 _ _ _ _ _ _ _ _)
   | (with_reducible exact ih2 _ _ _ _ _ _ _ _ _)
   | (with_reducible exact diff_Size.mono _ _)
   | (with_reducible exact hunk_Edits.mono _ _ _ _ _ _)
   | (with_reducible exact hunk_Make.mono _ _ _ _)
   | (with_reducible exact LeO.refl _)
   | (with_reducible exact LeO.none _)
   | (with_reducible refine LeO.ite ?_ ?_)
   | (with_reducible refine LeO.bind ?_ (fun _ => ?_))
   | exact ih0 _ _ _ _ _ _
   | exact ih1 _ _ _ _ _ _ _ _
   | exact ih2 _ _ _ _ _ _ _ _ _
   | exact diff_Size.mono _ _
   | exact hunk_Edits.mono _ _ _ _ _ _
   | exact hunk_Make.mono _ _ _ _
   | exact LeO.none _
   | refine LeO.ite ?_ ?_
   | refine LeO.bind ?_ (fun _ => ?_)
  ·intro y0 y1 y2 y3 y4 y5 y6 y7
   unfold grapevinelaw05_HunkFewer.l0
   repeat' first
   | (with_reducible exact ih0 _ _ _ _ _ _)
   | (with_reducible exact ih1 _ _ _ _ _ _ _ _)
   | (with_reducible exact ih2 _ _ _ _ _ _ _ _ _)
   | (with_reducible exact diff_Size.mono _ _)
   | (with_reducible exact hunk_Edits.mono _ _ _ _ _ _)
   | (with_reducible exact hunk_Make.mono _ _ _ _)
   | (with_reducible exact LeO.refl _)
   | (with_reducible exact LeO.none _)
   | (with_reducible refine LeO.ite ?_ ?_)
   | (with_reducible refine LeO.bind ?_ (fun _ => ?_))
   | exact ih0 _ _ _ _ _ _
   | exact ih1 _ _ _ _ _ _ _ _
   | exact ih2 _ _ _ _ _ _ _ _ _
   | exact diff_Size.mono _ _
   | exact hunk_Edits.mono _ _ _ _ _ _
   | exact hunk_Make.mono _ _ _ _
   | exact LeO.none _
   | refine LeO.ite ?_ ?_
   | refine LeO.bind ?_ (fun _ => ?_)
  ·intro y0 y1 y2 y3 y4 y5 y6 y7 y8
   unfold grapevinelaw05_HunkFewer.l1
   repeat' first
   | (with_reducible exact ih0 _ _ _ _ _ _)
   | (with_reducible exact ih1 _ _ _ _ _ _ _ _)
   | (with_reducible exact ih2 _ _ _ _ _ _ _ _ _)
   | (with_reducible exact diff_Size.mono _ _)
   | (with_reducible exact hunk_Edits.mono _ _ _ _ _ _)
   | (with_reducible exact hunk_Make.mono _ _ _ _)
   | (with_reducible exact LeO.refl _)
   | (with_reducible exact LeO.none _)
   | (with_reducible refine LeO.ite ?_ ?_)
   | (with_reducible refine LeO.bind ?_ (fun _ => ?_))
   | exact ih0 _ _ _ _ _ _
   | exact ih1 _ _ _ _ _ _ _ _
   | exact ih2 _ _ _ _ _ _ _ _ _
   | exact diff_Size.mono _ _
   | exact hunk_Edits.mono _ _ _ _ _ _
   | exact hunk_Make.mono _ _ _ _
   | exact LeO.none _
   | refine LeO.ite ?_ ?_
   | refine LeO.bind ?_ (fun _ => ?_)
theorem grapevinelaw05_HunkFewer.mono : ∀ a0 a1 a2 a3 k, LeO (grapevinelaw05_HunkFewer.f k a0 a1 a2 a3) (grapevinelaw05_HunkFewer.f (k + 1) a0 a1 a2 a3) := by
 intro a0 a1 a2 a3 k
 obtain ⟨ih0, ih1, ih2⟩ := grapevinelaw05_HunkFewer.mono_l k
 unfold grapevinelaw05_HunkFewer.f
 repeat' first
   | (with_reducible exact ih0 _ _ _ _ _ _)
   | (with_reducible exact ih1 _ _ _ _ _ _ _ _)
   | (with_reducible exact ih2 _ _ _ _ _ _ _ _ _)
   | (with_reducible exact diff_Size.mono _ _)
   | (with_reducible exact hunk_Edits.mono _ _ _ _ _ _)
   | (with_reducible exact hunk_Make.mono _ _ _ _)
   | (with_reducible exact LeO.refl _)
   | (with_reducible exact LeO.none _)
   | (with_reducible refine LeO.ite ?_ ?_)
   | (with_reducible refine LeO.bind ?_ (fun _ => ?_))
   | exact ih0 _ _ _ _ _ _
   | exact ih1 _ _ _ _ _ _ _ _
   | exact ih2 _ _ _ _ _ _ _ _ _
   | exact diff_Size.mono _ _
   | exact hunk_Edits.mono _ _ _ _ _ _
   | exact hunk_Make.mono _ _ _ _
   | exact LeO.none _
   | refine LeO.ite ?_ ?_
   | refine LeO.bind ?_ (fun _ => ?_)
set_option maxHeartbeats 8000000 in
set_option maxRecDepth 100000 in
theorem grapevinelaw05_HunkFewer.calls (k : Nat) (A0 : Option Addr) (c0 : Nat) (l0 : List ByteArray) (A1 : Option Addr) (c1 : Nat) (l1 : List ByteArray) (a2 : Int) (a3 : Int) (r : Bool) (w : World) (hrt_ : Aside0 (r = true)) (hr0 : Kd.C Kd.string w A0 l0.length l0) (hc0 : l0.length ≤ c0) (hr1 : Kd.C Kd.string w A1 l1.length l1) (hc1 : l1.length ≤ c1) (h : grapevinelaw05_HunkFewer.f k l0 l1 a2 a3 = some r) :
  Calls Try.prog 7 #[.slice A0 l0.length c0, .slice A1 l1.length c1, .int .u8 a2, .int .u8 a3] w fun e w' => e = .returned (.bool r) ∧ Below w.heap.size w w' := by
 have hu33 := Try.underlying33
 have HR0 := Aside0.mk hr0
 have HC0 := Aside0.mk hc0
 clear hr0 hc0
 have HR1 := Aside0.mk hr1
 have HC1 := Aside0.mk hc1
 clear hr1 hc1
 have HB := Aside0.mk (Below.refl w.heap.size w)
 have H : ((grapevinelaw05_awake.f).bind fun t440 => (if (l0.length : Int) > 40 then (grapevinelaw05_HunkFewer.j0 k l0 l1 a2 a3 t440 true) else (grapevinelaw05_HunkFewer.j0 k l0 l1 a2 a3 t440 (decide ((l1.length : Int) > 40))))) = some r := h
 clear h
 replace H := Option.bind_eq_some_iff.mp H
 obtain ⟨t440, A50, H⟩ := H
 replace H : (if (l0.length : Int) > 40 then (grapevinelaw05_HunkFewer.j0 k l0 l1 a2 a3 t440 true) else (grapevinelaw05_HunkFewer.j0 k l0 l1 a2 a3 t440 (decide ((l1.length : Int) > 40)))) = some r := H
 have A5 := Aside0.mk A50
 clear A50
 have HC6 := Aside0.mk H
 clear H
 go_enter Try.func7, Try.ntmps7
 go_upto_region 2 with (first | ((with_reducible refine gate_callee (f := 9) rfl ?_); refine goesL_ (some 21) rfl rfl Try.func9 (by kernel_rfl) rfl #[] rfl (by (try simp only [List.map_toArray, List.map_cons, List.map_nil]); first | done | rfl | (simp only [List.length_drop, List.length_take]; rfl)) ?_; (with_reducible refine (grapevinelaw05_awake.calls  t440 _ A5.out).mono ?_); rintro e w7 ⟨rfl, hb⟩; refine ⟨_, rfl, ?_⟩; have n0_ := Aside0.mk (below_step (by repeat (first | (with_reducible first | exact HB.out | apply below_alloc | apply pw_below_drewN | apply below_drew1) | exact HB.out)) hb); clear HB; have HB := n0_; clear n0_; (try clear hb); (try clear hb2); (try clear hk); (try clear hi)))
 (try simp only [Act.put, List.setIfInBounds_toArray, List.set_cons_zero, List.set_cons_succ])
 go_cut [29] (fun v29 wc => ∃ (kq : Nat) (x29_5 : Bool), v29 = .bool x29_5 ∧ Aside0 (grapevinelaw05_HunkFewer.j0 kq l0 l1 a2 a3 t440 x29_5 = some r) ∧ Aside0 (kq ≤ k) ∧ Aside0 (Below w.heap.size w wc))
 case first =>
  have H := HC6.out
  clear HC6
  by_cases c8 : (l0.length : Int) > 40
  ·rw [if_pos c8] at H
   have c8b0 : decide (40 < (l0.length : Int)) = true := decide_eq_true c8
   have c8b1 : decide (40 < l0.length) = true := decide_eq_true (by omega)
   clear c8
   (first | rw [c8b0] | (simp only [i64_w, i32_w]; rw [c8b0]) | skip)
   have H' := Aside0.mk H
   clear H
   go_wp2
   go_meet
   case rel => exact ⟨_, (true), (by first | rfl | (simp; done) | (simp [*]; done)), H', ⟨by first | omega | exact Nat.le_refl _⟩, ⟨by repeat (first | (with_reducible first | exact HB.out | apply below_alloc | apply pw_below_drewN | apply below_drew1) | exact HB.out)⟩⟩
  ·rw [if_neg c8] at H
   have c8b0 : decide (40 < (l0.length : Int)) = false := decide_eq_false c8
   have c8b1 : decide (40 < l0.length) = false := decide_eq_false (by omega)
   clear c8
   (first | rw [c8b0] | (simp only [i64_w, i32_w]; rw [c8b0]) | skip)
   have H' := Aside0.mk H
   clear H
   go_wp2
   go_meet
   case rel => exact ⟨_, (decide ((l1.length : Int) > 40)), (by first | rfl | (simp; done) | (simp [*]; done)), H', ⟨by first | omega | exact Nat.le_refl _⟩, ⟨by repeat (first | (with_reducible first | exact HB.out | apply below_alloc | apply pw_below_drewN | apply below_drew1) | exact HB.out)⟩⟩
 case rest =>
  clear HC6
  try clear c1
  try clear p2
  try clear c7
  try clear c8
  try clear c8b0
  try clear c8b1
  obtain ⟨kq, x29_5, rfl, HA, HJ5, HB⟩ := hcut
  cases kq with
  | zero => exact absurd HA.out (by simp [grapevinelaw05_HunkFewer.j0])
  | succ kj5 =>
   have H := HA.out
   clear HA
   simp only [grapevinelaw05_HunkFewer.j0] at H
   by_cases c9 : x29_5 = true
   ·subst c9
    have H1 : (some t440) = some r := by rw [if_pos rfl] at H; exact H
    clear H
    have H := H1
    clear H1
    obtain rfl := Option.some.inj H
    go_wp2
    go_ret
    exact ⟨by first | rfl | (simp [errW_none, errW_some] <;> rfl) | (simp [*, errW_none, errW_some] <;> rfl), by repeat (first | (with_reducible first | exact HB.out | apply below_alloc | apply pw_below_drewN | apply below_drew1) | exact HB.out)⟩
   ·replace c9 := Bool.eq_false_iff.mpr c9
    subst c9
    have H1 : ((diff_Diff.f l0 l1).bind fun t441 => ((hunk_Make.f kj5 l0 t441 (wrap64 (Int.tmod a2 51))).bind fun bt444 => ((hunk_Make.f kj5 l0 t441 (mx (wrap64 (Int.tmod a2 51)) (wrap64 (Int.tmod a3 51)))).bind fun bt448 => (grapevinelaw05_HunkFewer.l0 kj5 t440 t441 bt444.1 bt444.2 bt448.1 bt448.2 0 0)))) = some r := by rw [if_neg (show ¬ (false = true) by decide)] at H; exact H
    clear H
    have H := H1
    clear H1
    replace H := Option.bind_eq_some_iff.mp H
    obtain ⟨t441, A100, H⟩ := H
    replace H : ((hunk_Make.f kj5 l0 t441 (wrap64 (Int.tmod a2 51))).bind fun bt444 => ((hunk_Make.f kj5 l0 t441 (mx (wrap64 (Int.tmod a2 51)) (wrap64 (Int.tmod a3 51)))).bind fun bt448 => (grapevinelaw05_HunkFewer.l0 kj5 t440 t441 bt444.1 bt444.2 bt448.1 bt448.2 0 0))) = some r := H
    have A10 := Aside0.mk A100
    clear A100
    obtain ⟨ji11, hji11⟩ : ∃ j_ : Int, (mx (wrap64 (Int.tmod a2 51)) (wrap64 (Int.tmod a3 51))) = j_ := ⟨_, rfl⟩
    replace H : ((hunk_Make.f kj5 l0 t441 (wrap64 (Int.tmod a2 51))).bind fun bt444 => ((hunk_Make.f kj5 l0 t441 (ji11)).bind fun bt448 => (grapevinelaw05_HunkFewer.l0 kj5 t440 t441 bt444.1 bt444.2 bt448.1 bt448.2 0 0))) = some r := by first | (rw [hji11] at H; exact H) | (simp only [hji11] at H ⊢; exact H)
    (try rw [hji11] at A10)
    have hji11_ : (if (wrap64 (Int.tmod a2 51)) < (wrap64 (Int.tmod a3 51)) then (wrap64 (Int.tmod a3 51)) else (wrap64 (Int.tmod a2 51))) = ji11 := hji11
    replace H := Option.bind_eq_some_iff.mp H
    obtain ⟨⟨t444, t447⟩, A120, H⟩ := H
    replace H : ((hunk_Make.f kj5 l0 t441 (ji11)).bind fun bt448 => (grapevinelaw05_HunkFewer.l0 kj5 t440 t441 t444 t447 bt448.1 bt448.2 0 0)) = some r := H
    have A12 := Aside0.mk A120
    clear A120
    replace H := Option.bind_eq_some_iff.mp H
    obtain ⟨⟨t448, t451⟩, A130, H⟩ := H
    replace H : (grapevinelaw05_HunkFewer.l0 kj5 t440 t441 t444 t447 t448 t451 0 0) = some r := H
    have A13 := Aside0.mk A130
    clear A130
    have H' := Aside0.mk H
    clear H
    go_wp2_with (first | ((with_reducible refine gate_callee (f := 23) rfl ?_); refine goesL_ (some 33) rfl rfl Try.func23 (by kernel_rfl) rfl #[.slice A0 l0.length c0, .slice A1 l1.length c1] rfl (by (try simp only [List.map_toArray, List.map_cons, List.map_nil]); first | done | rfl | (simp only [List.length_drop, List.length_take]; rfl)) ?_; (with_reducible refine (diff_Diff.calls _ _ l0 _ _ l1 t441 _ ?side1 ?side2 ?side3 ?side4 A10.out).mono ?_); (case side1 => repeat (first | exact (Kd.C_below HR0.out HB.out) | (with_reducible refine Kd.C_alloc ?_ _) | (with_reducible refine Kd.C_drewN ?_ _) | (with_reducible refine Kd.C_drew ?_))); (case side2 => exact HC0.out); (case side3 => repeat (first | exact (Kd.C_below HR1.out HB.out) | (with_reducible refine Kd.C_alloc ?_ _) | (with_reducible refine Kd.C_drewN ?_ _) | (with_reducible refine Kd.C_drew ?_))); (case side4 => exact HC1.out); rintro e w14 ⟨v442, rfl, ho0, hb⟩; refine ⟨_, rfl, ?_⟩; have n0_ := Aside0.mk (Kd.S_lower ho0 (below_size (by repeat (first | (with_reducible first | exact HB.out | apply below_alloc | apply pw_below_drewN | apply below_drew1) | exact HB.out)))); have n1_ := Aside0.mk (below_step (by repeat (first | (with_reducible first | exact HB.out | apply below_alloc | apply pw_below_drewN | apply below_drew1) | exact HB.out)) hb); clear HB; have HO443 := n0_; have HB := n1_; clear n0_ n1_; (try clear hb); (try clear hb2); (try clear hk); (try clear hi); (try clear ho0); obtain ⟨Ao15, co15, eo15⟩ := Kd.S_slice HO443.out; subst eo15) | ((with_reducible refine gate_callee (f := 11) rfl ?_); refine goesL_ (some 46) rfl rfl Try.func11 (by kernel_rfl) rfl #[.slice A0 l0.length c0, .slice Ao15 t441.length co15, .int .i64 (wrap64 (Int.tmod a2 51))] rfl (by (try simp only [List.map_toArray, List.map_cons, List.map_nil]); first | done | rfl | (simp only [List.length_drop, List.length_take]; rfl)) ?_; (with_reducible refine (hunk_Make.calls kj5 _ _ l0 (fun k_ => True) _ _ t441 (wrap64 (Int.tmod a2 51)) t444 t447 _ ?side1 ?side2 ?side3 A12.out).mono ?_); (case side1 => repeat (first | exact (Kd.C_below HR0.out HB.out) | (with_reducible refine Kd.C_alloc ?_ _) | (with_reducible refine Kd.C_drewN ?_ _) | (with_reducible refine Kd.C_drew ?_))); (case side2 => exact HC0.out); (case side3 => exact Kd.S_V (HO443.out)); rintro e w16 ⟨v445, rfl, ho0, hb⟩; refine ⟨_, rfl, ?_⟩; have n0_ := Aside0.mk (Kd.S_below (by (with_reducible repeat (first | apply Kd.S_alloc | apply Kd.S_drewN | apply Kd.S_drew)); exact HO443.out) hb); have n1_ := Aside0.mk (Kd.S_lower (Kd.S_mono (ok' := fun k_ => True) ho0 (fun _ hk_ => trivial)) (below_size (by repeat (first | (with_reducible first | exact HB.out | apply below_alloc | apply pw_below_drewN | apply below_drew1) | exact HB.out)))); have n2_ := Aside0.mk (below_step (by repeat (first | (with_reducible first | exact HB.out | apply below_alloc | apply pw_below_drewN | apply below_drew1) | exact HB.out)) hb); clear HO443; clear HB; have HO443 := n0_; have HO446 := n1_; have HB := n2_; clear n0_ n1_ n2_; (try clear hb); (try clear hb2); (try clear hk); (try clear hi); (try clear ho0)) | ((with_reducible refine gate_callee (f := 11) rfl ?_); refine goesL_ (some 53) rfl rfl Try.func11 (by kernel_rfl) rfl #[.slice A0 l0.length c0, .slice Ao15 t441.length co15, .int .i64 ji11] rfl (by (try simp only [List.map_toArray, List.map_cons, List.map_nil]); first | done | (simp only [hji11]; rfl) | rfl | (simp only [List.length_drop, List.length_take]; rfl)) ?_; (with_reducible refine (hunk_Make.calls kj5 _ _ l0 (fun k_ => (True ∧ some k_ ≠ (v445 : Value).ownBlock)) _ _ t441 ji11 t448 t451 _ ?side1 ?side2 ?side3 A13.out).mono ?_); (case side1 => repeat (first | exact (Kd.C_below HR0.out HB.out) | (with_reducible refine Kd.C_alloc ?_ _) | (with_reducible refine Kd.C_drewN ?_ _) | (with_reducible refine Kd.C_drew ?_))); (case side2 => exact HC0.out); (case side3 => exact Kd.S_V (Kd.S_apart' (HO443.out) (Kd.S_typed HO446.out) (by decide))); rintro e w17 ⟨v449, rfl, ho0, hb⟩; refine ⟨_, rfl, ?_⟩; have n0_ := Aside0.mk (Kd.S_below (by (with_reducible repeat (first | apply Kd.S_alloc | apply Kd.S_drewN | apply Kd.S_drew)); exact HO443.out) hb); have n1_ := Aside0.mk (Kd.S_elder' (by (with_reducible repeat (first | apply Kd.S_alloc | apply Kd.S_drewN | apply Kd.S_drew)); exact HO446.out) (Kd.S_base ho0) hb); have n2_ := Aside0.mk (Kd.S_lower (Kd.S_new' (Kd.S_mono (ok' := fun k_ => True) ho0 (fun _ hk_ => trivial)) (Kd.S_lt (by (with_reducible repeat (first | apply Kd.S_alloc | apply Kd.S_drewN | apply Kd.S_drew)); exact HO446.out))) (below_size (by repeat (first | (with_reducible first | exact HB.out | apply below_alloc | apply pw_below_drewN | apply below_drew1) | exact HB.out)))); have n3_ := Aside0.mk (below_step (by repeat (first | (with_reducible first | exact HB.out | apply below_alloc | apply pw_below_drewN | apply below_drew1) | exact HB.out)) hb); clear HO443; clear HO446; clear HB; have HO443 := n0_; have HO446 := n1_; have HO450 := n2_; have HB := n3_; clear n0_ n1_ n2_ n3_; (try clear hb); (try clear hb2); (try clear hk); (try clear hi); (try clear ho0)))
    go_loopg [17, 18] kj5 (fun kq v17 v18 w' => ∃ (x17_2 : Int) (x18_2 : Int), v17 = .int .i64 x17_2 ∧ v18 = .int .i64 x18_2 ∧ Aside0 (grapevinelaw05_HunkFewer.l0 kq t440 t441 t444 t447 t448 t451 x17_2 x18_2 = some r) ∧ Aside0 (kq ≤ kj5) ∧ Aside0 (Kd.S k51 51 w' w.heap.size (fun _ => True) (.slice Ao15 t441.length co15) t441) ∧ Aside0 (Kd.S k33 33 w' w.heap.size (fun k_ => some k_ ≠ (v449 : Value).ownBlock) v445 t444) ∧ Aside0 (Kd.S k33 33 w' w.heap.size (fun k_ => some k_ ≠ (v445 : Value).ownBlock) v449 t448) ∧ Aside0 (Below w.heap.size w w'))
    case atStart => exact ⟨(0), (0), (by first | rfl | (simp; done) | (simp [*]; done)), (by first | rfl | (simp; done) | (simp [*]; done)), H', ⟨Nat.le_refl _⟩, ⟨by (with_reducible repeat (first | apply Kd.S_alloc | apply Kd.S_drewN | apply Kd.S_drew)); exact HO443.out⟩, ⟨by (with_reducible repeat (first | apply Kd.S_alloc | apply Kd.S_drewN | apply Kd.S_drew)); exact Kd.S_mono HO446.out (fun _ hk => hk.2)⟩, ⟨by (with_reducible repeat (first | apply Kd.S_alloc | apply Kd.S_drewN | apply Kd.S_drew)); exact Kd.S_mono HO450.out (fun _ hk => hk.2)⟩, ⟨by repeat (first | (with_reducible first | exact HB.out | apply below_alloc | apply pw_below_drewN | apply below_drew1) | exact HB.out)⟩⟩
    case round =>
     clear H'
     try clear c1
     try clear c2
     try clear p2
     try clear p6
     try clear c7
     try clear c8
     try clear c8b0
     try clear c8b1
     try clear c9
     try clear c11
     try clear p2
     obtain ⟨x17_2, x18_2, rfl, rfl, HA, HK2, HO_10, HO_13, HO_15, HB⟩ := hrel
     cases gk with
     | zero => exact absurd HA.out (by simp [grapevinelaw05_HunkFewer.l0])
     | succ k2 =>
      have H := HA.out
      clear HA
      simp only [grapevinelaw05_HunkFewer.l0] at H
      by_cases c18 : x18_2 < (t444.length : Int)
      ·rw [if_pos c18] at H
       have c18b0 : decide (x18_2 < (t444.length : Int)) = true := decide_eq_true c18
       clear c18
       by_cases c19 : 0 ≤ x18_2
       ·rw [if_pos c19] at H
        have c19b0 : decide (0 ≤ x18_2) = true := decide_eq_true c19
        clear c19
        replace H := Option.bind_eq_some_iff.mp H
        obtain ⟨t453, A200, H⟩ := H
        replace H : ((diff_Size.f k2 t453).bind fun t456 => (grapevinelaw05_HunkFewer.l0 k2 t440 t441 t444 t447 t448 t451 (wrap64 (x17_2 + t456)) (wrap64 (x18_2 + 1)))) = some r := H
        have A20 := Aside0.mk A200
        clear A200
        replace H := Option.bind_eq_some_iff.mp H
        obtain ⟨t456, A210, H⟩ := H
        replace H : (grapevinelaw05_HunkFewer.l0 k2 t440 t441 t444 t447 t448 t451 (wrap64 (x17_2 + t456)) (wrap64 (x18_2 + 1))) = some r := H
        have A21 := Aside0.mk A210
        clear A210
        have H' := Aside0.mk H
        clear H
        obtain ⟨Ao22, co22, eo22⟩ := Kd.S_slice HO_13.out
        subst eo22
        have p452 : 0 ≤ (x18_2 : Int) := of_decide_eq_true (by first | (with_reducible assumption) | assumption)
        have q452 : x18_2 < (t444.length : Int) := of_decide_eq_true (by first | (with_reducible assumption) | assumption)
        obtain ⟨ad452, A452_4, c452_4, e452, hx452_0, hx452_1, hx452_2, hx452_3, hx452_4, hl452_4, hi452_4⟩ := at_T33 (Kd.S_reads' HO_13.out).2.2 x18_2 p452 q452
        cases e452
        obtain ⟨ce452, hce452, hMe452, hcc452⟩ := Kd.S_get HO_13.out z33 x18_2 p452 (by first | exact q452 | exact of_decide_eq_true (by first | (with_reducible assumption) | assumption) | (have e_ := (Kd.S_reads' HO_13.out).1; omega))
        obtain ⟨ve452_4, rfl, ge452_4⟩ := k33_openM hMe452
        have hv452_4 := hcc452 4 _ rfl
        rw [add_field _ _ 4 (by omega)] at hv452_4
        replace hv452_4 := Option.some.inj (hv452_4.symm.trans hx452_4)
        rw [hv452_4] at ge452_4
        have HL452_4 := Aside0.mk (show Kd.R Kd.string 9 _ _ _ _ ((rd_T33 t444 x18_2).f4) from ge452_4)
        clear hv452_4 ge452_4
        clear hcc452 hce452
        have HR452_4 := Aside0.mk hi452_4
        have HC452_4 := Aside0.mk hl452_4
        clear hi452_4 hl452_4
        replace p452 := eq_true p452
        replace q452 := eq_true q452
        go_wp2_with (first | ((with_reducible refine gate_callee (f := 21) rfl ?_); refine goesL_ (some 67) rfl rfl Try.func21 (by kernel_rfl) rfl #[.agg #[.int .i64 ((rd_T33 t444 x18_2).f0), .int .i64 ((rd_T33 t444 x18_2).f1), .int .i64 ((rd_T33 t444 x18_2).f2), .int .i64 ((rd_T33 t444 x18_2).f3), .slice A452_4 ((rd_T33 t444 x18_2).f4).length c452_4]] rfl (by (try simp only [List.map_toArray, List.map_cons, List.map_nil]); first | done | rfl | (simp only [List.length_drop, List.length_take]; rfl)) ?_; (with_reducible refine (hunk_Edits.calls k2 ((rd_T33 t444 x18_2).f0) ((rd_T33 t444 x18_2).f1) ((rd_T33 t444 x18_2).f2) ((rd_T33 t444 x18_2).f3) (fun k_ => some k_ = (.slice A452_4 ((rd_T33 t444 x18_2).f4).length c452_4 : Value).ownBlock) _ _ ((rd_T33 t444 x18_2).f4) t453 _ ?side1 A20.out).mono ?_); (case side1 => exact Kd.R_V (Kd.R_tight rfl (Kd.R_apart' (HL452_4.out) (Kd.S_typed HO_10.out) (by decide)))); rintro e w23 ⟨v454, rfl, ho0, hb⟩; refine ⟨_, rfl, ?_⟩; have n0_ := Aside0.mk (Kd.S_elder' (by (with_reducible repeat (first | apply Kd.S_alloc | apply Kd.S_drewN | apply Kd.S_drew)); exact HO_10.out) (Kd.S_base ho0) hb); have n1_ := Aside0.mk (Kd.S_below (by (with_reducible repeat (first | apply Kd.S_alloc | apply Kd.S_drewN | apply Kd.S_drew)); exact HO_13.out) hb); have n2_ := Aside0.mk (Kd.S_below (by (with_reducible repeat (first | apply Kd.S_alloc | apply Kd.S_drewN | apply Kd.S_drew)); exact HO_15.out) hb); have n3_ := Aside0.mk (Kd.R_below (by (with_reducible repeat (first | apply Kd.R_alloc | apply Kd.R_drewN | apply Kd.R_drew)); exact HL452_4.out) hb); have n4_ := Aside0.mk (Kd.S_lower (Kd.S_new' (Kd.S_new' (Kd.S_mono (ok' := fun k_ => True) ho0 (fun _ hk_ => trivial)) (Kd.S_lt (by (with_reducible repeat (first | apply Kd.S_alloc | apply Kd.S_drewN | apply Kd.S_drew)); exact HO_10.out))) (Kd.R_lt (by (with_reducible repeat (first | apply Kd.R_alloc | apply Kd.R_drewN | apply Kd.R_drew)); exact HL452_4.out))) (below_size (by repeat (first | (with_reducible first | exact HB.out | apply below_alloc | apply pw_below_drewN | apply below_drew1) | exact HB.out)))); have n5_ := Aside0.mk (Kd.C_below (by repeat (first | (with_reducible exact HR452_4.out) | (with_reducible refine Kd.C_alloc ?_ _) | (with_reducible refine Kd.C_drewN ?_ _) | (with_reducible refine Kd.C_drew ?_) | exact HR452_4.out)) hb); have n6_ := Aside0.mk (below_step (by repeat (first | (with_reducible first | exact HB.out | apply below_alloc | apply pw_below_drewN | apply below_drew1) | exact HB.out)) hb); clear HO_10; clear HO_13; clear HO_15; clear HL452_4; clear HR452_4; clear HB; have HO_10 := n0_; have HO_13 := n1_; have HO_15 := n2_; have HL452_4 := n3_; have HO455 := n4_; have HR452_4 := n5_; have HB := n6_; clear n0_ n1_ n2_ n3_ n4_ n5_ n6_; (try clear hb); (try clear hb2); (try clear hk); (try clear hi); (try clear ho0); obtain ⟨Ao24, co24, eo24⟩ := Kd.S_slice HO455.out; subst eo24) | ((with_reducible refine gate_callee (f := 24) rfl ?_); refine goesL_ (some 68) rfl rfl Try.func24 (by kernel_rfl) rfl #[.slice Ao24 t453.length co24] rfl (by (try simp only [List.map_toArray, List.map_cons, List.map_nil]); first | done | rfl | (simp only [List.length_drop, List.length_take]; rfl)) ?_; (with_reducible refine (diff_Size.calls k2 _ _ t453 t456 _ ?side1 ?side2 A21.out).mono ?_); (case side1 => repeat (first | exact (Kd.S_reads' HO455.out).2.2 | (with_reducible refine Kd.C_alloc ?_ _) | (with_reducible refine Kd.C_drewN ?_ _) | (with_reducible refine Kd.C_drew ?_))); (case side2 => exact (Kd.S_reads' HO455.out).2.1); rintro e w25 ⟨rfl, hb⟩; refine ⟨_, rfl, ?_⟩; have n0_ := Aside0.mk (Kd.S_below (by (with_reducible repeat (first | apply Kd.S_alloc | apply Kd.S_drewN | apply Kd.S_drew)); exact HO_10.out) hb); have n1_ := Aside0.mk (Kd.S_below (by (with_reducible repeat (first | apply Kd.S_alloc | apply Kd.S_drewN | apply Kd.S_drew)); exact HO_13.out) hb); have n2_ := Aside0.mk (Kd.S_below (by (with_reducible repeat (first | apply Kd.S_alloc | apply Kd.S_drewN | apply Kd.S_drew)); exact HO_15.out) hb); have n3_ := Aside0.mk (Kd.R_below (by (with_reducible repeat (first | apply Kd.R_alloc | apply Kd.R_drewN | apply Kd.R_drew)); exact HL452_4.out) hb); have n4_ := Aside0.mk (Kd.S_below (by (with_reducible repeat (first | apply Kd.S_alloc | apply Kd.S_drewN | apply Kd.S_drew)); exact HO455.out) hb); have n5_ := Aside0.mk (Kd.C_below (by repeat (first | (with_reducible exact HR452_4.out) | (with_reducible refine Kd.C_alloc ?_ _) | (with_reducible refine Kd.C_drewN ?_ _) | (with_reducible refine Kd.C_drew ?_) | exact HR452_4.out)) hb); have n6_ := Aside0.mk (below_step (by repeat (first | (with_reducible first | exact HB.out | apply below_alloc | apply pw_below_drewN | apply below_drew1) | exact HB.out)) hb); clear HO_10; clear HO_13; clear HO_15; clear HL452_4; clear HO455; clear HR452_4; clear HB; have HO_10 := n0_; have HO_13 := n1_; have HO_15 := n2_; have HL452_4 := n3_; have HO455 := n4_; have HR452_4 := n5_; have HB := n6_; clear n0_ n1_ n2_ n3_ n4_ n5_ n6_; (try clear hb); (try clear hb2); (try clear hk); (try clear hi)))
        go_roundg k2
        case measure => have := HJ5.out; have := HK2.out; omega
        case rel => exact ⟨(wrap64 (x17_2 + t456)), (wrap64 (x18_2 + 1)), (by first | rfl | (simp; done) | (simp [*]; done)), (by first | rfl | (simp; done) | (simp [*]; done)), H', ⟨by have := HJ5.out; have := HK2.out; omega⟩, ⟨by (with_reducible repeat (first | apply Kd.S_alloc | apply Kd.S_drewN | apply Kd.S_drew)); exact Kd.S_mono HO_10.out (fun _ hk => trivial)⟩, ⟨by (with_reducible repeat (first | apply Kd.S_alloc | apply Kd.S_drewN | apply Kd.S_drew)); exact HO_13.out⟩, ⟨by (with_reducible repeat (first | apply Kd.S_alloc | apply Kd.S_drewN | apply Kd.S_drew)); exact HO_15.out⟩, ⟨by repeat (first | (with_reducible first | exact HB.out | apply below_alloc | apply pw_below_drewN | apply below_drew1) | exact HB.out)⟩⟩
       ·rw [if_neg c19] at H
        exact absurd H (by simp)
      ·rw [if_neg c18] at H
       have c18b0 : decide (x18_2 < (t444.length : Int)) = false := decide_eq_false c18
       clear c18
       have H' := Aside0.mk H
       clear H
       obtain ⟨Ao26, co26, eo26⟩ := Kd.S_slice HO_13.out
       subst eo26
       go_wp2
       go_loopg [19, 20] k2 (fun kq v19 v20 w' => ∃ (x19_3 : Int) (x20_3 : Int), v19 = .int .i64 x19_3 ∧ v20 = .int .i64 x20_3 ∧ Aside0 (grapevinelaw05_HunkFewer.l1 kq t440 t441 t444 t447 t448 t451 x17_2 x19_3 x20_3 = some r) ∧ Aside0 (kq ≤ k2) ∧ Aside0 (Kd.S k51 51 w' w.heap.size (fun _ => True) (.slice Ao15 t441.length co15) t441) ∧ Aside0 (Kd.S k33 33 w' w.heap.size (fun k_ => some k_ ≠ (v449 : Value).ownBlock) (.slice Ao26 t444.length co26) t444) ∧ Aside0 (Kd.S k33 33 w' w.heap.size (fun k_ => some k_ ≠ ((.slice Ao26 t444.length co26) : Value).ownBlock) v449 t448) ∧ Aside0 (Below w.heap.size w w'))
       case atStart => exact ⟨(0), (0), (by first | rfl | (simp; done) | (simp [*]; done)), (by first | rfl | (simp; done) | (simp [*]; done)), H', ⟨Nat.le_refl _⟩, ⟨by (with_reducible repeat (first | apply Kd.S_alloc | apply Kd.S_drewN | apply Kd.S_drew)); exact HO_10.out⟩, ⟨by (with_reducible repeat (first | apply Kd.S_alloc | apply Kd.S_drewN | apply Kd.S_drew)); exact HO_13.out⟩, ⟨by (with_reducible repeat (first | apply Kd.S_alloc | apply Kd.S_drewN | apply Kd.S_drew)); exact HO_15.out⟩, ⟨by repeat (first | (with_reducible first | exact HB.out | apply below_alloc | apply pw_below_drewN | apply below_drew1) | exact HB.out)⟩⟩
       case round =>
        clear H'
        try clear c1
        try clear c2
        try clear p2
        try clear c4
        try clear p4
        try clear q4
        try clear hx4
        try clear p6
        try clear c7
        try clear c8
        try clear c8b0
        try clear c8b1
        try clear c9
        try clear c11
        try clear c18
        try clear c18b0
        try clear c19
        try clear c19b0
        try clear c21
        try clear c23
        try clear c24
        try clear hx452_0
        try clear hx452_1
        try clear hx452_2
        try clear hx452_3
        try clear hx452_4
        try clear p2
        try clear p452
        try clear p6
        try clear q452
        obtain ⟨x19_3, x20_3, rfl, rfl, HA, HK3, HO_10, HO_13, HO_15, HB⟩ := hrel
        cases gk with
        | zero => exact absurd HA.out (by simp [grapevinelaw05_HunkFewer.l1])
        | succ k3 =>
         have H := HA.out
         clear HA
         simp only [grapevinelaw05_HunkFewer.l1] at H
         by_cases c27 : x20_3 < (t448.length : Int)
         ·rw [if_pos c27] at H
          have c27b0 : decide (x20_3 < (t448.length : Int)) = true := decide_eq_true c27
          clear c27
          by_cases c28 : 0 ≤ x20_3
          ·rw [if_pos c28] at H
           have c28b0 : decide (0 ≤ x20_3) = true := decide_eq_true c28
           clear c28
           replace H := Option.bind_eq_some_iff.mp H
           obtain ⟨t458, A290, H⟩ := H
           replace H : ((diff_Size.f k3 t458).bind fun t461 => (grapevinelaw05_HunkFewer.l1 k3 t440 t441 t444 t447 t448 t451 x17_2 (wrap64 (x19_3 + t461)) (wrap64 (x20_3 + 1)))) = some r := H
           have A29 := Aside0.mk A290
           clear A290
           replace H := Option.bind_eq_some_iff.mp H
           obtain ⟨t461, A300, H⟩ := H
           replace H : (grapevinelaw05_HunkFewer.l1 k3 t440 t441 t444 t447 t448 t451 x17_2 (wrap64 (x19_3 + t461)) (wrap64 (x20_3 + 1))) = some r := H
           have A30 := Aside0.mk A300
           clear A300
           have H' := Aside0.mk H
           clear H
           obtain ⟨Ao31, co31, eo31⟩ := Kd.S_slice HO_15.out
           subst eo31
           have p457 : 0 ≤ (x20_3 : Int) := of_decide_eq_true (by first | (with_reducible assumption) | assumption)
           have q457 : x20_3 < (t448.length : Int) := of_decide_eq_true (by first | (with_reducible assumption) | assumption)
           obtain ⟨ad457, A457_4, c457_4, e457, hx457_0, hx457_1, hx457_2, hx457_3, hx457_4, hl457_4, hi457_4⟩ := at_T33 (Kd.S_reads' HO_15.out).2.2 x20_3 p457 q457
           cases e457
           obtain ⟨ce457, hce457, hMe457, hcc457⟩ := Kd.S_get HO_15.out z33 x20_3 p457 (by first | exact q457 | exact of_decide_eq_true (by first | (with_reducible assumption) | assumption) | (have e_ := (Kd.S_reads' HO_15.out).1; omega))
           obtain ⟨ve457_4, rfl, ge457_4⟩ := k33_openM hMe457
           have hv457_4 := hcc457 4 _ rfl
           rw [add_field _ _ 4 (by omega)] at hv457_4
           replace hv457_4 := Option.some.inj (hv457_4.symm.trans hx457_4)
           rw [hv457_4] at ge457_4
           have HL457_4 := Aside0.mk (show Kd.R Kd.string 9 _ _ _ _ ((rd_T33 t448 x20_3).f4) from ge457_4)
           clear hv457_4 ge457_4
           clear hcc457 hce457
           have HR457_4 := Aside0.mk hi457_4
           have HC457_4 := Aside0.mk hl457_4
           clear hi457_4 hl457_4
           replace p457 := eq_true p457
           replace q457 := eq_true q457
           go_wp2_with (first | ((with_reducible refine gate_callee (f := 21) rfl ?_); refine goesL_ (some 81) rfl rfl Try.func21 (by kernel_rfl) rfl #[.agg #[.int .i64 ((rd_T33 t448 x20_3).f0), .int .i64 ((rd_T33 t448 x20_3).f1), .int .i64 ((rd_T33 t448 x20_3).f2), .int .i64 ((rd_T33 t448 x20_3).f3), .slice A457_4 ((rd_T33 t448 x20_3).f4).length c457_4]] rfl (by (try simp only [List.map_toArray, List.map_cons, List.map_nil]); first | done | rfl | (simp only [List.length_drop, List.length_take]; rfl)) ?_; (with_reducible refine (hunk_Edits.calls k3 ((rd_T33 t448 x20_3).f0) ((rd_T33 t448 x20_3).f1) ((rd_T33 t448 x20_3).f2) ((rd_T33 t448 x20_3).f3) (fun k_ => some k_ = (.slice A457_4 ((rd_T33 t448 x20_3).f4).length c457_4 : Value).ownBlock) _ _ ((rd_T33 t448 x20_3).f4) t458 _ ?side1 A29.out).mono ?_); (case side1 => exact Kd.R_V (Kd.R_tight rfl (Kd.R_apart' (HL457_4.out) (Kd.S_typed HO_10.out) (by decide)))); rintro e w32 ⟨v459, rfl, ho0, hb⟩; refine ⟨_, rfl, ?_⟩; have n0_ := Aside0.mk (Kd.S_elder' (by (with_reducible repeat (first | apply Kd.S_alloc | apply Kd.S_drewN | apply Kd.S_drew)); exact HO_10.out) (Kd.S_base ho0) hb); have n1_ := Aside0.mk (Kd.S_below (by (with_reducible repeat (first | apply Kd.S_alloc | apply Kd.S_drewN | apply Kd.S_drew)); exact HO_13.out) hb); have n2_ := Aside0.mk (Kd.S_below (by (with_reducible repeat (first | apply Kd.S_alloc | apply Kd.S_drewN | apply Kd.S_drew)); exact HO_15.out) hb); have n3_ := Aside0.mk (Kd.R_below (by (with_reducible repeat (first | apply Kd.R_alloc | apply Kd.R_drewN | apply Kd.R_drew)); exact HL457_4.out) hb); have n4_ := Aside0.mk (Kd.S_lower (Kd.S_new' (Kd.S_new' (Kd.S_mono (ok' := fun k_ => True) ho0 (fun _ hk_ => trivial)) (Kd.S_lt (by (with_reducible repeat (first | apply Kd.S_alloc | apply Kd.S_drewN | apply Kd.S_drew)); exact HO_10.out))) (Kd.R_lt (by (with_reducible repeat (first | apply Kd.R_alloc | apply Kd.R_drewN | apply Kd.R_drew)); exact HL457_4.out))) (below_size (by repeat (first | (with_reducible first | exact HB.out | apply below_alloc | apply pw_below_drewN | apply below_drew1) | exact HB.out)))); have n5_ := Aside0.mk (Kd.C_below (by repeat (first | (with_reducible exact HR457_4.out) | (with_reducible refine Kd.C_alloc ?_ _) | (with_reducible refine Kd.C_drewN ?_ _) | (with_reducible refine Kd.C_drew ?_) | exact HR457_4.out)) hb); have n6_ := Aside0.mk (below_step (by repeat (first | (with_reducible first | exact HB.out | apply below_alloc | apply pw_below_drewN | apply below_drew1) | exact HB.out)) hb); clear HO_10; clear HO_13; clear HO_15; clear HL457_4; clear HR457_4; clear HB; have HO_10 := n0_; have HO_13 := n1_; have HO_15 := n2_; have HL457_4 := n3_; have HO460 := n4_; have HR457_4 := n5_; have HB := n6_; clear n0_ n1_ n2_ n3_ n4_ n5_ n6_; (try clear hb); (try clear hb2); (try clear hk); (try clear hi); (try clear ho0); obtain ⟨Ao33, co33, eo33⟩ := Kd.S_slice HO460.out; subst eo33) | ((with_reducible refine gate_callee (f := 24) rfl ?_); refine goesL_ (some 82) rfl rfl Try.func24 (by kernel_rfl) rfl #[.slice Ao33 t458.length co33] rfl (by (try simp only [List.map_toArray, List.map_cons, List.map_nil]); first | done | rfl | (simp only [List.length_drop, List.length_take]; rfl)) ?_; (with_reducible refine (diff_Size.calls k3 _ _ t458 t461 _ ?side1 ?side2 A30.out).mono ?_); (case side1 => repeat (first | exact (Kd.S_reads' HO460.out).2.2 | (with_reducible refine Kd.C_alloc ?_ _) | (with_reducible refine Kd.C_drewN ?_ _) | (with_reducible refine Kd.C_drew ?_))); (case side2 => exact (Kd.S_reads' HO460.out).2.1); rintro e w34 ⟨rfl, hb⟩; refine ⟨_, rfl, ?_⟩; have n0_ := Aside0.mk (Kd.S_below (by (with_reducible repeat (first | apply Kd.S_alloc | apply Kd.S_drewN | apply Kd.S_drew)); exact HO_10.out) hb); have n1_ := Aside0.mk (Kd.S_below (by (with_reducible repeat (first | apply Kd.S_alloc | apply Kd.S_drewN | apply Kd.S_drew)); exact HO_13.out) hb); have n2_ := Aside0.mk (Kd.S_below (by (with_reducible repeat (first | apply Kd.S_alloc | apply Kd.S_drewN | apply Kd.S_drew)); exact HO_15.out) hb); have n3_ := Aside0.mk (Kd.R_below (by (with_reducible repeat (first | apply Kd.R_alloc | apply Kd.R_drewN | apply Kd.R_drew)); exact HL457_4.out) hb); have n4_ := Aside0.mk (Kd.S_below (by (with_reducible repeat (first | apply Kd.S_alloc | apply Kd.S_drewN | apply Kd.S_drew)); exact HO460.out) hb); have n5_ := Aside0.mk (Kd.C_below (by repeat (first | (with_reducible exact HR457_4.out) | (with_reducible refine Kd.C_alloc ?_ _) | (with_reducible refine Kd.C_drewN ?_ _) | (with_reducible refine Kd.C_drew ?_) | exact HR457_4.out)) hb); have n6_ := Aside0.mk (below_step (by repeat (first | (with_reducible first | exact HB.out | apply below_alloc | apply pw_below_drewN | apply below_drew1) | exact HB.out)) hb); clear HO_10; clear HO_13; clear HO_15; clear HL457_4; clear HO460; clear HR457_4; clear HB; have HO_10 := n0_; have HO_13 := n1_; have HO_15 := n2_; have HL457_4 := n3_; have HO460 := n4_; have HR457_4 := n5_; have HB := n6_; clear n0_ n1_ n2_ n3_ n4_ n5_ n6_; (try clear hb); (try clear hb2); (try clear hk); (try clear hi)))
           go_roundg k3
           case measure => have := HJ5.out; have := HK2.out; have := HK3.out; omega
           case rel => exact ⟨(wrap64 (x19_3 + t461)), (wrap64 (x20_3 + 1)), (by first | rfl | (simp; done) | (simp [*]; done)), (by first | rfl | (simp; done) | (simp [*]; done)), H', ⟨by have := HJ5.out; have := HK2.out; have := HK3.out; omega⟩, ⟨by (with_reducible repeat (first | apply Kd.S_alloc | apply Kd.S_drewN | apply Kd.S_drew)); exact Kd.S_mono HO_10.out (fun _ hk => trivial)⟩, ⟨by (with_reducible repeat (first | apply Kd.S_alloc | apply Kd.S_drewN | apply Kd.S_drew)); exact HO_13.out⟩, ⟨by (with_reducible repeat (first | apply Kd.S_alloc | apply Kd.S_drewN | apply Kd.S_drew)); exact HO_15.out⟩, ⟨by repeat (first | (with_reducible first | exact HB.out | apply below_alloc | apply pw_below_drewN | apply below_drew1) | exact HB.out)⟩⟩
          ·rw [if_neg c28] at H
           exact absurd H (by simp)
         ·rw [if_neg c27] at H
          have c27b0 : decide (x20_3 < (t448.length : Int)) = false := decide_eq_false c27
          clear c27
          by_cases c35 : t440 = true
          ·subst c35
           have H1 : (if t447 = 0 then (if t451 = 0 then (if (t448.length : Int) ≤ (t444.length : Int) then (if x17_2 = x19_3 then ((diff_Size.f k3 t441).bind fun t462 => (if x17_2 = t462 then (if (((t444.length : Int) == 0) == ((t441.length : Int) == 0)) = true then (some (((t448.length : Int) == 0) == ((t441.length : Int) == 0))) else (some false)) else (some false))) else (some false)) else (some false)) else (some false)) else (some false)) = some r := by rw [if_pos rfl] at H; exact H
           clear H
           have H := H1
           clear H1
           by_cases c36 : t447 = 0
           ·rw [if_pos c36] at H
            have c36b0 : (t447 == 0) = true := beq_iff_eq.mpr c36
            have c36b1 : (t447 != 0) = false := bne_eq_false_iff_eq.mpr c36
            clear c36
            by_cases c37 : t451 = 0
            ·rw [if_pos c37] at H
             have c37b0 : (t451 == 0) = true := beq_iff_eq.mpr c37
             have c37b1 : (t451 != 0) = false := bne_eq_false_iff_eq.mpr c37
             clear c37
             by_cases c38 : (t448.length : Int) ≤ (t444.length : Int)
             ·rw [if_pos c38] at H
              have c38b0 : decide ((t448.length : Int) ≤ (t444.length : Int)) = true := decide_eq_true c38
              have c38b1 : decide (t448.length ≤ t444.length) = true := decide_eq_true (Int.ofNat_le.mp c38)
              clear c38
              by_cases c39 : x17_2 = x19_3
              ·rw [if_pos c39] at H
               have c39b0 : (x17_2 == x19_3) = true := beq_iff_eq.mpr c39
               have c39b1 : (x17_2 != x19_3) = false := bne_eq_false_iff_eq.mpr c39
               clear c39
               replace H := Option.bind_eq_some_iff.mp H
               obtain ⟨t462, A400, H⟩ := H
               replace H : (if x17_2 = t462 then (if (((t444.length : Int) == 0) == ((t441.length : Int) == 0)) = true then (some (((t448.length : Int) == 0) == ((t441.length : Int) == 0))) else (some false)) else (some false)) = some r := H
               have A40 := Aside0.mk A400
               clear A400
               by_cases c41 : x17_2 = t462
               ·rw [if_pos c41] at H
                have c41b0 : (x17_2 == t462) = true := beq_iff_eq.mpr c41
                have c41b1 : (x17_2 != t462) = false := bne_eq_false_iff_eq.mpr c41
                clear c41
                by_cases c42 : (((t444.length : Int) == 0) == ((t441.length : Int) == 0)) = true
                ·rw [if_pos c42] at H
                 have c42b0 : (((t444.length : Int) == 0) == ((t441.length : Int) == 0)) = true := c42
                 (try (have c42b1 : decide (((t444.length : Int) == 0) = ((t441.length : Int) == 0)) = true := by simpa using c42))
                 (try (have c42b2 : (((t444.length : Int) == 0) == ((t441.length : Int) == 0)) = true := by simpa using c42))
                 clear c42
                 obtain rfl := Option.some.inj H
                 obtain ⟨Ao43, co43, eo43⟩ := Kd.S_slice HO_15.out
                 subst eo43
                 go_wp2_with (first | (go_at_call 24; (with_reducible refine (diff_Size.calls k3 _ _ t441 t462 _ ?side1 ?side2 A40.out).mono ?_); (case side1 => repeat (first | exact (Kd.S_reads' HO_10.out).2.2 | (with_reducible refine Kd.C_alloc ?_ _) | (with_reducible refine Kd.C_drewN ?_ _) | (with_reducible refine Kd.C_drew ?_))); (case side2 => exact (Kd.S_reads' HO_10.out).2.1); rintro e w44 ⟨rfl, hb⟩; have n0_ := Aside0.mk (Kd.S_below (by (with_reducible repeat (first | apply Kd.S_alloc | apply Kd.S_drewN | apply Kd.S_drew)); exact HO_10.out) hb); have n1_ := Aside0.mk (Kd.S_below (by (with_reducible repeat (first | apply Kd.S_alloc | apply Kd.S_drewN | apply Kd.S_drew)); exact HO_13.out) hb); have n2_ := Aside0.mk (Kd.S_below (by (with_reducible repeat (first | apply Kd.S_alloc | apply Kd.S_drewN | apply Kd.S_drew)); exact HO_15.out) hb); have n3_ := Aside0.mk (below_step (by repeat (first | (with_reducible first | exact HB.out | apply below_alloc | apply pw_below_drewN | apply below_drew1) | exact HB.out)) hb); clear HO_10; clear HO_13; clear HO_15; clear HB; have HO_10 := n0_; have HO_13 := n1_; have HO_15 := n2_; have HB := n3_; clear n0_ n1_ n2_ n3_; (try clear hb); (try clear hb2); (try clear hk); (try clear hi)))
                 go_ret
                 exact ⟨by first | rfl | (simp [errW_none, errW_some] <;> rfl) | (simp only [← hji11]; first | rfl | (simp [errW_none, errW_some] <;> rfl)) | (simp [*, errW_none, errW_some] <;> rfl), by repeat (first | (with_reducible first | exact HB.out | apply below_alloc | apply pw_below_drewN | apply below_drew1) | exact HB.out)⟩
                ·rw [if_neg c42] at H
                 have c42b0 : (((t444.length : Int) == 0) == ((t441.length : Int) == 0)) = false := by simpa using c42
                 (try (have c42b1 : decide (((t444.length : Int) == 0) = ((t441.length : Int) == 0)) = false := by simpa using c42))
                 (try (have c42b2 : (((t444.length : Int) == 0) == ((t441.length : Int) == 0)) = false := by simpa using c42))
                 (try (have c42b3 : ¬ (((t444.length : Int) == 0) = ((t441.length : Int) == 0)) := by simpa using c42))
                 clear c42
                 exact absurd (H.trans (congrArg some hrt_.out)) (by simp)
               ·rw [if_neg c41] at H
                have c41b0 : (x17_2 == t462) = false := beq_eq_false_iff_ne.mpr c41
                have c41b1 : (x17_2 != t462) = true := bne_iff_ne.mpr c41
                exact absurd (H.trans (congrArg some hrt_.out)) (by simp)
              ·rw [if_neg c39] at H
               have c39b0 : (x17_2 == x19_3) = false := beq_eq_false_iff_ne.mpr c39
               have c39b1 : (x17_2 != x19_3) = true := bne_iff_ne.mpr c39
               exact absurd (H.trans (congrArg some hrt_.out)) (by simp)
             ·rw [if_neg c38] at H
              have c38b0 : decide ((t448.length : Int) ≤ (t444.length : Int)) = false := decide_eq_false c38
              have c38b1 : decide (t448.length ≤ t444.length) = false := decide_eq_false (fun h => c38 (Int.ofNat_le.mpr h))
              clear c38
              exact absurd (H.trans (congrArg some hrt_.out)) (by simp)
            ·rw [if_neg c37] at H
             have c37b0 : (t451 == 0) = false := beq_eq_false_iff_ne.mpr c37
             have c37b1 : (t451 != 0) = true := bne_iff_ne.mpr c37
             exact absurd (H.trans (congrArg some hrt_.out)) (by simp)
           ·rw [if_neg c36] at H
            have c36b0 : (t447 == 0) = false := beq_eq_false_iff_ne.mpr c36
            have c36b1 : (t447 != 0) = true := bne_iff_ne.mpr c36
            exact absurd (H.trans (congrArg some hrt_.out)) (by simp)
          ·replace c35 := Bool.eq_false_iff.mpr c35
           subst c35
           have H1 : (some false) = some r := by rw [if_neg (show ¬ (false = true) by decide)] at H; exact H
           clear H
           have H := H1
           clear H1
           exact absurd (H.trans (congrArg some hrt_.out)) (by simp)

end Go.Proofs.Ytlabiajcohmjhaa.Pr
