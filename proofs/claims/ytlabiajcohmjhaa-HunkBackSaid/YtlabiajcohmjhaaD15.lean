-- written by a program of this session's (a turned copy of the kit's printer); Lean checks it
import Derived.Test.YtlabiajcohmjhaaD0
import Derived.Test.YtlabiajcohmjhaaGAwakeH
import Derived.Test.YtlabiajcohmjhaaGDiff
import Derived.Test.YtlabiajcohmjhaaGSame
import Derived.Test.YtlabiajcohmjhaaD14a
import Derived.Test.YtlabiajcohmjhaaD14b
import Derived.Test.YtlabiajcohmjhaaD3a
import Derived.Test.YtlabiajcohmjhaaD3c
import Derived.Test.YtlabiajcohmjhaaD5
import Derived.Test.YtlabiajcohmjhaaD6a
namespace Go.Proofs.Ytlabiajcohmjhaa.Pr
open Go.RowKit Go.Proofs.YtlabiajcohmjhaaW.PrintWords Go.Proofs.YtlabiajcohmjhaaW.PrintLast Go.Proofs.YtlabiajcohmjhaaW.PrintMore
attribute [local go_sem] max2_int min2_int max_two min_two max_three min_three max_four min_four   -- for this text's walks alone
set_option linter.unusedVariables false
set_option linter.unusedSimpArgs false

mutual
def grapevinelaw05_HunkBack.j0 : Nat → List ByteArray → List ByteArray → Int → Bool → Bool → Option (Bool)
 | 0, _, _, _, _, _ => none
 | k + 1, x0, x1, x2, x7, x23 => if x23 = true then (some x7) else ((diff_Diff.f x0 x1).bind fun t499 => ((hunk_Make.f k x0 t499 (wrap64 (Int.tmod x2 51))).bind fun bt502 => (if bt502.2 = 0 then (grapevinelaw05_HunkBack.l0 k x0 x1 x7 t499 bt502.1 ([] : List (S51)) 0) else (some false))))
def grapevinelaw05_HunkBack.l0 : Nat → List ByteArray → List ByteArray → Bool → List (S51) → List (S33) → List (S51) → Int → Option (Bool)
 | 0, _, _, _, _, _, _, _ => none
 | k + 1, x0, x1, x7, x8, x9, x11, x12 => if x12 < (x9.length : Int) then (if 0 ≤ x12 then ((hunk_Turn.f k ((rd_T33 x9 x12).f0) ((rd_T33 x9 x12).f1) ((rd_T33 x9 x12).f2) ((rd_T33 x9 x12).f3) ((rd_T33 x9 x12).f4)).bind fun bt507 => ((hunk_Edits.f k bt507.1 bt507.2.1 bt507.2.2.1 bt507.2.2.2.1 bt507.2.2.2.2).bind fun t514 => (if x11.length + t514.length < 3518437208883 then (grapevinelaw05_HunkBack.l0 k x0 x1 x7 x8 x9 (x11 ++ t514) (wrap64 (x12 + 1))) else (none)))) else (none)) else ((diff_Play.f k x1 x11).bind fun bt520 => (if x7 = true then (if bt520.2 = true then ((grapevineref01_Texts.f k bt520.1 x0).bind fun t524 => (if t524 = true then ((diff_Turn.f k x0 x8).bind fun t525 => ((grapevineref04_Same.f x11 t525).bind fun t528 => (some t528))) else (some false))) else (some false)) else (some false)))
end
def grapevinelaw05_HunkBack.f (k : Nat) (l0 : List ByteArray) (l1 : List ByteArray) (a2 : Int) : Option (Bool) := (grapevinelaw05_awake.f).bind fun t498 => (if (l0.length : Int) > 40 then (grapevinelaw05_HunkBack.j0 k l0 l1 a2 t498 true) else (grapevinelaw05_HunkBack.j0 k l0 l1 a2 t498 (decide ((l1.length : Int) > 40))))
theorem grapevinelaw05_HunkBack.mono_l : ∀ k, (∀ y0 y1 y2 y3 y4, LeO (grapevinelaw05_HunkBack.j0 k y0 y1 y2 y3 y4) (grapevinelaw05_HunkBack.j0 (k + 1) y0 y1 y2 y3 y4)) ∧ (∀ y0 y1 y2 y3 y4 y5 y6, LeO (grapevinelaw05_HunkBack.l0 k y0 y1 y2 y3 y4 y5 y6) (grapevinelaw05_HunkBack.l0 (k + 1) y0 y1 y2 y3 y4 y5 y6))
 | 0 => ⟨fun _ _ _ _ _ r h => by simp [grapevinelaw05_HunkBack.j0] at h, fun _ _ _ _ _ _ _ r h => by simp [grapevinelaw05_HunkBack.l0] at h⟩
 | k + 1 => by
  obtain ⟨ih0, ih1⟩ := grapevinelaw05_HunkBack.mono_l k
  refine ⟨?_, ?_⟩
  ·intro y0 y1 y2 y3 y4
   unfold grapevinelaw05_HunkBack.j0
   repeat' first
   | (with_reducible exact ih0 _ _ _ _ _)
   | (with_reducible exact ih1 _ _ _ _ _ _ _)
   | (with_reducible exact diff_Play.mono _ _ _)
   | (with_reducible exact diff_Turn.mono _ _ _)
   | (with_reducible exact grapevineref01_Texts.mono _ _ _)
   | (with_reducible exact hunk_Edits.mono _ _ _ _ _ _)
   | (with_reducible exact hunk_Make.mono _ _ _ _)
   | (with_reducible exact hunk_Turn.mono _ _ _ _ _ _)
   | (with_reducible exact LeO.refl _)
   | (with_reducible exact LeO.none _)
   | (with_reducible refine LeO.ite ?_ ?_)
   | (with_reducible refine LeO.bind ?_ (fun _ => ?_))
   | exact ih0 _ _ _ _ _
   | exact ih1 _ _ _ _ _ _ _
   | exact diff_Play.mono _ _ _
   | exact diff_Turn.mono _ _ _
   | exact grapevineref01_Texts.mono _ _ _
   | exact hunk_Edits.mono _ _ _ _ _ _
   | exact hunk_Make.mono _ _ _ _
   | exact hunk_Turn.mono _ _ _ _ _ _
   | exact LeO.none _
   | refine LeO.ite ?_ ?_
   | refine LeO.bind ?_ (fun _ => ?_)
  ·intro y0 y1 y2 y3 y4 y5 y6
   unfold grapevinelaw05_HunkBack.l0
   repeat' first
   | (with_reducible exact ih0 _ _ _ _ _)
   | (with_reducible exact ih1 _ _ _ _ _ _ _)
   | (with_reducible exact diff_Play.mono _ _ _)
   | (with_reducible exact diff_Turn.mono _ _ _)
   | (with_reducible exact grapevineref01_Texts.mono _ _ _)
   | (with_reducible exact hunk_Edits.mono _ _ _ _ _ _)
   | (with_reducible exact hunk_Make.mono _ _ _ _)
   | (with_reducible exact hunk_Turn.mono _ _ _ _ _ _)
   | (with_reducible exact LeO.refl _)
   | (with_reducible exact LeO.none _)
   | (with_reducible refine LeO.ite ?_ ?_)
   | (with_reducible refine LeO.bind ?_ (fun _ => ?_))
   | exact ih0 _ _ _ _ _
   | exact ih1 _ _ _ _ _ _ _
   | exact diff_Play.mono _ _ _
   | exact diff_Turn.mono _ _ _
   | exact grapevineref01_Texts.mono _ _ _
   | exact hunk_Edits.mono _ _ _ _ _ _
   | exact hunk_Make.mono _ _ _ _
   | exact hunk_Turn.mono _ _ _ _ _ _
   | exact LeO.none _
   | refine LeO.ite ?_ ?_
   | refine LeO.bind ?_ (fun _ => ?_)
theorem grapevinelaw05_HunkBack.mono : ∀ a0 a1 a2 k, LeO (grapevinelaw05_HunkBack.f k a0 a1 a2) (grapevinelaw05_HunkBack.f (k + 1) a0 a1 a2) := by
 intro a0 a1 a2 k
 obtain ⟨ih0, ih1⟩ := grapevinelaw05_HunkBack.mono_l k
 unfold grapevinelaw05_HunkBack.f
 repeat' first
   | (with_reducible exact ih0 _ _ _ _ _)
   | (with_reducible exact ih1 _ _ _ _ _ _ _)
   | (with_reducible exact diff_Play.mono _ _ _)
   | (with_reducible exact diff_Turn.mono _ _ _)
   | (with_reducible exact grapevineref01_Texts.mono _ _ _)
   | (with_reducible exact hunk_Edits.mono _ _ _ _ _ _)
   | (with_reducible exact hunk_Make.mono _ _ _ _)
   | (with_reducible exact hunk_Turn.mono _ _ _ _ _ _)
   | (with_reducible exact LeO.refl _)
   | (with_reducible exact LeO.none _)
   | (with_reducible refine LeO.ite ?_ ?_)
   | (with_reducible refine LeO.bind ?_ (fun _ => ?_))
   | exact ih0 _ _ _ _ _
   | exact ih1 _ _ _ _ _ _ _
   | exact diff_Play.mono _ _ _
   | exact diff_Turn.mono _ _ _
   | exact grapevineref01_Texts.mono _ _ _
   | exact hunk_Edits.mono _ _ _ _ _ _
   | exact hunk_Make.mono _ _ _ _
   | exact hunk_Turn.mono _ _ _ _ _ _
   | exact LeO.none _
   | refine LeO.ite ?_ ?_
   | refine LeO.bind ?_ (fun _ => ?_)
set_option maxHeartbeats 8000000 in
set_option maxRecDepth 100000 in
theorem grapevinelaw05_HunkBack.calls (k : Nat) (A0 : Option Addr) (c0 : Nat) (l0 : List ByteArray) (A1 : Option Addr) (c1 : Nat) (l1 : List ByteArray) (a2 : Int) (r : Bool) (w : World) (hrt_ : Aside0 (r = true)) (hr0 : Kd.C Kd.string w A0 l0.length l0) (hc0 : l0.length ≤ c0) (hr1 : Kd.C Kd.string w A1 l1.length l1) (hc1 : l1.length ≤ c1) (h : grapevinelaw05_HunkBack.f k l0 l1 a2 = some r) :
  Calls Try.prog 8 #[.slice A0 l0.length c0, .slice A1 l1.length c1, .int .u8 a2] w fun e w' => e = .returned (.bool r) ∧ Below w.heap.size w w' := by
 have hu33 := Try.underlying33
 have HR0 := Aside0.mk hr0
 have HC0 := Aside0.mk hc0
 clear hr0 hc0
 have HR1 := Aside0.mk hr1
 have HC1 := Aside0.mk hc1
 clear hr1 hc1
 have HB := Aside0.mk (Below.refl w.heap.size w)
 have H : ((grapevinelaw05_awake.f).bind fun t498 => (if (l0.length : Int) > 40 then (grapevinelaw05_HunkBack.j0 k l0 l1 a2 t498 true) else (grapevinelaw05_HunkBack.j0 k l0 l1 a2 t498 (decide ((l1.length : Int) > 40))))) = some r := h
 clear h
 replace H := Option.bind_eq_some_iff.mp H
 obtain ⟨t498, A40, H⟩ := H
 replace H : (if (l0.length : Int) > 40 then (grapevinelaw05_HunkBack.j0 k l0 l1 a2 t498 true) else (grapevinelaw05_HunkBack.j0 k l0 l1 a2 t498 (decide ((l1.length : Int) > 40)))) = some r := H
 have A4 := Aside0.mk A40
 clear A40
 have HC5 := Aside0.mk H
 clear H
 go_enter Try.func8, Try.ntmps8
 go_upto_region 2 with (first | ((with_reducible refine gate_callee (f := 9) rfl ?_); refine goesL_ (some 15) rfl rfl Try.func9 (by kernel_rfl) rfl #[] rfl (by (try simp only [List.map_toArray, List.map_cons, List.map_nil]); first | done | rfl | (simp only [List.length_drop, List.length_take]; rfl)) ?_; (with_reducible refine (grapevinelaw05_awake.calls  t498 _ A4.out).mono ?_); rintro e w6 ⟨rfl, hb⟩; refine ⟨_, rfl, ?_⟩; have n0_ := Aside0.mk (below_step (by repeat (first | (with_reducible first | exact HB.out | apply below_alloc | apply pw_below_drewN | apply below_drew1) | exact HB.out)) hb); clear HB; have HB := n0_; clear n0_; (try clear hb); (try clear hb2); (try clear hk); (try clear hi)))
 (try simp only [Act.put, List.setIfInBounds_toArray, List.set_cons_zero, List.set_cons_succ])
 go_cut [23] (fun v23 wc => ∃ (kq : Nat) (x23_4 : Bool), v23 = .bool x23_4 ∧ Aside0 (grapevinelaw05_HunkBack.j0 kq l0 l1 a2 t498 x23_4 = some r) ∧ Aside0 (kq ≤ k) ∧ Aside0 (Below w.heap.size w wc))
 case first =>
  have H := HC5.out
  clear HC5
  by_cases c7 : (l0.length : Int) > 40
  ·rw [if_pos c7] at H
   have c7b0 : decide (40 < (l0.length : Int)) = true := decide_eq_true c7
   have c7b1 : decide (40 < l0.length) = true := decide_eq_true (by omega)
   clear c7
   (first | rw [c7b0] | (simp only [i64_w, i32_w]; rw [c7b0]) | skip)
   have H' := Aside0.mk H
   clear H
   go_wp2
   go_meet
   case rel => exact ⟨_, (true), (by first | rfl | (simp; done) | (simp [*]; done)), H', ⟨by first | omega | exact Nat.le_refl _⟩, ⟨by repeat (first | (with_reducible first | exact HB.out | apply below_alloc | apply pw_below_drewN | apply below_drew1) | exact HB.out)⟩⟩
  ·rw [if_neg c7] at H
   have c7b0 : decide (40 < (l0.length : Int)) = false := decide_eq_false c7
   have c7b1 : decide (40 < l0.length) = false := decide_eq_false (by omega)
   clear c7
   (first | rw [c7b0] | (simp only [i64_w, i32_w]; rw [c7b0]) | skip)
   have H' := Aside0.mk H
   clear H
   go_wp2
   go_meet
   case rel => exact ⟨_, (decide ((l1.length : Int) > 40)), (by first | rfl | (simp; done) | (simp [*]; done)), H', ⟨by first | omega | exact Nat.le_refl _⟩, ⟨by repeat (first | (with_reducible first | exact HB.out | apply below_alloc | apply pw_below_drewN | apply below_drew1) | exact HB.out)⟩⟩
 case rest =>
  clear HC5
  try clear c1
  try clear p2
  try clear c7
  try clear c7b0
  try clear c7b1
  obtain ⟨kq, x23_4, rfl, HA, HJ4, HB⟩ := hcut
  cases kq with
  | zero => exact absurd HA.out (by simp [grapevinelaw05_HunkBack.j0])
  | succ kj4 =>
   have H := HA.out
   clear HA
   simp only [grapevinelaw05_HunkBack.j0] at H
   by_cases c8 : x23_4 = true
   ·subst c8
    have H1 : (some t498) = some r := by rw [if_pos rfl] at H; exact H
    clear H
    have H := H1
    clear H1
    obtain rfl := Option.some.inj H
    go_wp2
    go_ret
    exact ⟨by first | rfl | (simp [errW_none, errW_some] <;> rfl) | (simp [*, errW_none, errW_some] <;> rfl), by repeat (first | (with_reducible first | exact HB.out | apply below_alloc | apply pw_below_drewN | apply below_drew1) | exact HB.out)⟩
   ·replace c8 := Bool.eq_false_iff.mpr c8
    subst c8
    have H1 : ((diff_Diff.f l0 l1).bind fun t499 => ((hunk_Make.f kj4 l0 t499 (wrap64 (Int.tmod a2 51))).bind fun bt502 => (if bt502.2 = 0 then (grapevinelaw05_HunkBack.l0 kj4 l0 l1 t498 t499 bt502.1 ([] : List (S51)) 0) else (some false)))) = some r := by rw [if_neg (show ¬ (false = true) by decide)] at H; exact H
    clear H
    have H := H1
    clear H1
    replace H := Option.bind_eq_some_iff.mp H
    obtain ⟨t499, A90, H⟩ := H
    replace H : ((hunk_Make.f kj4 l0 t499 (wrap64 (Int.tmod a2 51))).bind fun bt502 => (if bt502.2 = 0 then (grapevinelaw05_HunkBack.l0 kj4 l0 l1 t498 t499 bt502.1 ([] : List (S51)) 0) else (some false))) = some r := H
    have A9 := Aside0.mk A90
    clear A90
    replace H := Option.bind_eq_some_iff.mp H
    obtain ⟨⟨t502, t505⟩, A100, H⟩ := H
    replace H : (if t505 = 0 then (grapevinelaw05_HunkBack.l0 kj4 l0 l1 t498 t499 t502 ([] : List (S51)) 0) else (some false)) = some r := H
    have A10 := Aside0.mk A100
    clear A100
    by_cases c11 : t505 = 0
    ·rw [if_pos c11] at H
     have c11b0 : (t505 == 0) = true := beq_iff_eq.mpr c11
     have c11b1 : (t505 != 0) = false := bne_eq_false_iff_eq.mpr c11
     clear c11
     have H' := Aside0.mk H
     clear H
     go_wp2_with (first | ((with_reducible refine gate_callee (f := 23) rfl ?_); refine goesL_ (some 27) rfl rfl Try.func23 (by kernel_rfl) rfl #[.slice A0 l0.length c0, .slice A1 l1.length c1] rfl (by (try simp only [List.map_toArray, List.map_cons, List.map_nil]); first | done | rfl | (simp only [List.length_drop, List.length_take]; rfl)) ?_; (with_reducible refine (diff_Diff.calls _ _ l0 _ _ l1 t499 _ ?side1 ?side2 ?side3 ?side4 A9.out).mono ?_); (case side1 => repeat (first | exact (Kd.C_below HR0.out HB.out) | (with_reducible refine Kd.C_alloc ?_ _) | (with_reducible refine Kd.C_drewN ?_ _) | (with_reducible refine Kd.C_drew ?_))); (case side2 => exact HC0.out); (case side3 => repeat (first | exact (Kd.C_below HR1.out HB.out) | (with_reducible refine Kd.C_alloc ?_ _) | (with_reducible refine Kd.C_drewN ?_ _) | (with_reducible refine Kd.C_drew ?_))); (case side4 => exact HC1.out); rintro e w12 ⟨v500, rfl, ho0, hb⟩; refine ⟨_, rfl, ?_⟩; have n0_ := Aside0.mk (Kd.N_lower (Kd.N_mono (ok' := fun k_ => True) (Kd.S_N (Kd.S_bound ho0)) (fun k_ hk_ => trivial)) (below_size (by repeat (first | (with_reducible first | exact HB.out | apply below_alloc | apply pw_below_drewN | apply below_drew1) | exact HB.out)))); have n1_ := Aside0.mk (below_step (by repeat (first | (with_reducible first | exact HB.out | apply below_alloc | apply pw_below_drewN | apply below_drew1) | exact HB.out)) hb); clear HB; have HO501 := n0_; have HB := n1_; clear n0_ n1_; (try clear hb); (try clear hb2); (try clear hk); (try clear hi); (try clear ho0); obtain ⟨Ao13, co13, eo13⟩ := Kd.N_slice HO501.out; subst eo13) | ((with_reducible refine gate_callee (f := 11) rfl ?_); refine goesL_ (some 34) rfl rfl Try.func11 (by kernel_rfl) rfl #[.slice A0 l0.length c0, .slice Ao13 t499.length co13, .int .i64 (wrap64 (Int.tmod a2 51))] rfl (by (try simp only [List.map_toArray, List.map_cons, List.map_nil]); first | done | rfl | (simp only [List.length_drop, List.length_take]; rfl)) ?_; (with_reducible refine (hunk_Make.calls kj4 _ _ l0 (fun k_ => True) _ _ t499 (wrap64 (Int.tmod a2 51)) t502 t505 _ ?side1 ?side2 ?side3 A10.out).mono ?_); (case side1 => repeat (first | exact (Kd.C_below HR0.out HB.out) | (with_reducible refine Kd.C_alloc ?_ _) | (with_reducible refine Kd.C_drewN ?_ _) | (with_reducible refine Kd.C_drew ?_))); (case side2 => exact HC0.out); (case side3 => exact Kd.N_V (HO501.out)); rintro e w14 ⟨v503, rfl, ho0, hb⟩; refine ⟨_, rfl, ?_⟩; have n0_ := Aside0.mk (Kd.N_elder' (by (with_reducible repeat (first | apply Kd.N_alloc | apply Kd.N_drewN | apply Kd.N_drew)); exact HO501.out) (by first | exact Kd.N_base ho0 | exact Kd.S_base ho0) hb); have n1_ := Aside0.mk (Kd.N_lower (by first | exact (Kd.N_mono (ok' := fun k_ => True) ho0 (fun k_ hk_ => trivial)) | exact (Kd.N_mono (ok' := fun k_ => True) (Kd.S_N ho0) (fun k_ hk_ => trivial))) (below_size (by repeat (first | (with_reducible first | exact HB.out | apply below_alloc | apply pw_below_drewN | apply below_drew1) | exact HB.out)))); have n2_ := Aside0.mk (below_step (by repeat (first | (with_reducible first | exact HB.out | apply below_alloc | apply pw_below_drewN | apply below_drew1) | exact HB.out)) hb); clear HO501; clear HB; have HO501 := n0_; have HO504 := n1_; have HB := n2_; clear n0_ n1_ n2_; (try clear hb); (try clear hb2); (try clear hk); (try clear hi); (try clear ho0)))
     go_loopg [11, 12] kj4 (fun kq v11 v12 w' => ∃ (x11_2 : List (S51)) (x12_2 : Int), v12 = .int .i64 x12_2 ∧ Aside0 (grapevinelaw05_HunkBack.l0 kq l0 l1 t498 t499 t502 x11_2 x12_2 = some r) ∧ Aside0 (kq ≤ kj4) ∧ Aside0 (Kd.N k51 51 w' w.heap.size (fun k_ => some k_ ≠ (v503 : Value).ownBlock ∧ some k_ ≠ (v11 : Value).ownBlock) (.slice Ao13 t499.length co13) t499) ∧ Aside0 (Kd.N k33 33 w' w.heap.size (fun k_ => some k_ ≠ (v11 : Value).ownBlock) v503 t502) ∧ Aside0 (Kd.N k51 51 w' w.heap.size (fun k_ => some k_ ≠ ((.slice Ao13 t499.length co13) : Value).ownBlock ∧ some k_ ≠ (v503 : Value).ownBlock) v11 x11_2) ∧ Aside0 (Below w.heap.size w w'))
     case atStart => exact ⟨(([] : List (S51))), (0), (by first | rfl | (simp; done) | (simp [*]; done)), H', ⟨Nat.le_refl _⟩, ⟨by (with_reducible repeat (first | apply Kd.N_alloc | apply Kd.N_drewN | apply Kd.N_drew)); exact Kd.N_mono HO501.out (fun _ hk => ⟨hk.2, (by simp [Value.ownBlock])⟩)⟩, ⟨by (with_reducible repeat (first | apply Kd.N_alloc | apply Kd.N_drewN | apply Kd.N_drew)); exact Kd.N_mono HO504.out (fun _ hk => (by simp [Value.ownBlock]))⟩, ⟨by first | exact Kd.S_nil _ _ _ _ _ | exact Kd.N_nil _ _ _ _ _ | exact Kd.V_nil _ _ _ _ _ | exact Kd.Q_nil _ _ _ _ _ | exact Kd.R_nil _ _ _ _ _⟩, ⟨by repeat (first | (with_reducible first | exact HB.out | apply below_alloc | apply pw_below_drewN | apply below_drew1) | exact HB.out)⟩⟩
     case round =>
      clear H'
      try clear c1
      try clear c2
      try clear p2
      try clear p6
      try clear c7
      try clear c7b0
      try clear c7b1
      try clear c8
      try clear c9
      try clear c11
      try clear c11b0
      try clear c11b1
      try clear p2
      obtain ⟨x11_2, x12_2, rfl, HA, HK2, HO_8, HO_9, HO_11, HB⟩ := hrel
      cases gk with
      | zero => exact absurd HA.out (by simp [grapevinelaw05_HunkBack.l0])
      | succ k2 =>
       have H := HA.out
       clear HA
       simp only [grapevinelaw05_HunkBack.l0] at H
       by_cases c15 : x12_2 < (t502.length : Int)
       ·rw [if_pos c15] at H
        have c15b0 : decide (x12_2 < (t502.length : Int)) = true := decide_eq_true c15
        clear c15
        by_cases c16 : 0 ≤ x12_2
        ·rw [if_pos c16] at H
         have c16b0 : decide (0 ≤ x12_2) = true := decide_eq_true c16
         clear c16
         replace H := Option.bind_eq_some_iff.mp H
         obtain ⟨⟨t507, t508, t509, t510, t511⟩, A170, H⟩ := H
         replace H : ((hunk_Edits.f k2 t507 t508 t509 t510 t511).bind fun t514 => (if x11_2.length + t514.length < 3518437208883 then (grapevinelaw05_HunkBack.l0 k2 l0 l1 t498 t499 t502 (x11_2 ++ t514) (wrap64 (x12_2 + 1))) else (none))) = some r := H
         have A17 := Aside0.mk A170
         clear A170
         replace H := Option.bind_eq_some_iff.mp H
         obtain ⟨t514, A180, H⟩ := H
         replace H : (if x11_2.length + t514.length < 3518437208883 then (grapevinelaw05_HunkBack.l0 k2 l0 l1 t498 t499 t502 (x11_2 ++ t514) (wrap64 (x12_2 + 1))) else (none)) = some r := H
         have A18 := Aside0.mk A180
         clear A180
         by_cases c19 : x11_2.length + t514.length < 3518437208883
         ·rw [if_pos c19] at H
          have LMc19 := Aside0.mk c19
          clear c19
          obtain ⟨y517, hy517⟩ : ∃ y_ : List (S51), y_ = (x11_2 ++ t514) := ⟨_, rfl⟩
          replace H : (grapevinelaw05_HunkBack.l0 k2 l0 l1 t498 t499 t502 y517 (wrap64 (x12_2 + 1))) = some r := by first | (rw [hy517]; with_reducible exact H) | (have H2_ := (Option.bind_some _ _).symm.trans H; rw [hy517]; with_reducible exact H2_) | (have H2_ := (Option.bind_some _ _).symm.trans H; with_reducible exact H2_) | with_reducible exact H | (rw [hy517]; exact H) | exact H
          have Ny517 := Aside0.mk hy517
          clear hy517
          have H' := Aside0.mk H
          clear H
          obtain ⟨Ao20, co20, eo20⟩ := Kd.N_slice HO_9.out
          subst eo20
          have p506 : 0 ≤ (x12_2 : Int) := of_decide_eq_true (by first | (with_reducible assumption) | assumption)
          have q506 : x12_2 < (t502.length : Int) := of_decide_eq_true (by first | (with_reducible assumption) | assumption)
          obtain ⟨ad506, A506_4, c506_4, e506, hx506_0, hx506_1, hx506_2, hx506_3, hx506_4, hl506_4, hi506_4⟩ := at_T33 (Kd.N_reads' HO_9.out).2.2 x12_2 p506 q506
          cases e506
          obtain ⟨ce506, hce506, hMe506, hcc506⟩ := Kd.N_get HO_9.out z33 x12_2 p506 (by first | exact q506 | exact of_decide_eq_true (by first | (with_reducible assumption) | assumption) | (have e_ := (Kd.N_reads' HO_9.out).1; omega))
          obtain ⟨ua506_4, uc506_4, rfl, ul506_4, ge506_4⟩ := k33_openF hMe506
          have hv506_4 := hcc506 4 _ rfl
          rw [add_field _ _ 4 (by omega)] at hv506_4
          replace hv506_4 := Option.some.inj (hv506_4.symm.trans hx506_4)
          injection hv506_4 with hva_ hvn_ hvc_
          rw [hva_] at ge506_4
          rw [hvc_] at ul506_4
          have HL506_4 := Aside0.mk (show Kd.V Kd.string 9 _ w.heap.size _ _ ((rd_T33 t502 x12_2).f4) from Kd.V_mk ul506_4 ge506_4)
          clear hva_ hvn_ hvc_ ge506_4 ul506_4
          clear hcc506 hce506
          have HR506_4 := Aside0.mk hi506_4
          have HC506_4 := Aside0.mk hl506_4
          clear hi506_4 hl506_4
          replace p506 := eq_true p506
          replace q506 := eq_true q506
          go_wp2_with (first | ((with_reducible refine gate_callee (f := 18) rfl ?_); refine goesL_ (some 50) rfl rfl Try.func18 (by kernel_rfl) rfl #[.agg #[.int .i64 ((rd_T33 t502 x12_2).f0), .int .i64 ((rd_T33 t502 x12_2).f1), .int .i64 ((rd_T33 t502 x12_2).f2), .int .i64 ((rd_T33 t502 x12_2).f3), .slice A506_4 ((rd_T33 t502 x12_2).f4).length c506_4]] rfl (by (try simp only [List.map_toArray, List.map_cons, List.map_nil]); first | done | rfl | (simp only [List.length_drop, List.length_take]; rfl)) ?_; (with_reducible refine (hunk_Turn.calls k2 ((rd_T33 t502 x12_2).f0) ((rd_T33 t502 x12_2).f1) ((rd_T33 t502 x12_2).f2) ((rd_T33 t502 x12_2).f3) (fun k_ => (some k_ ≠ (u11 : Value).ownBlock ∧ some k_ ≠ (.slice (some ad506) t502.length co20 : Value).ownBlock)) _ _ ((rd_T33 t502 x12_2).f4) t507 t508 t509 t510 t511 _ ?side1 A17.out).mono ?_); (case side1 => exact HL506_4.out); rintro e w21 ⟨v512, rfl, ho0, hb⟩; refine ⟨_, rfl, ?_⟩; have n0_ := Aside0.mk (Kd.N_elder' (by (with_reducible repeat (first | apply Kd.N_alloc | apply Kd.N_drewN | apply Kd.N_drew)); exact HO_8.out) (Kd.R_base ho0) hb); have n1_ := Aside0.mk (Kd.N_elder' (by (with_reducible repeat (first | apply Kd.N_alloc | apply Kd.N_drewN | apply Kd.N_drew)); exact HO_9.out) (Kd.R_base ho0) hb); have n2_ := Aside0.mk (Kd.N_elder' (by (with_reducible repeat (first | apply Kd.N_alloc | apply Kd.N_drewN | apply Kd.N_drew)); exact HO_11.out) (Kd.R_base ho0) hb); have n3_ := Aside0.mk (Kd.V_elder' (by (with_reducible repeat (first | apply Kd.V_alloc | apply Kd.V_drewN | apply Kd.V_drew)); exact HL506_4.out) (Kd.R_base ho0) hb); have n4_ := Aside0.mk (Kd.R_lower (Kd.R_mono (ok' := fun k_ => True) ho0 (fun _ hk_ => trivial)) (below_size (by repeat (first | (with_reducible first | exact HB.out | apply below_alloc | apply pw_below_drewN | apply below_drew1) | exact HB.out)))); have n5_ := Aside0.mk (Kd.C_below (by repeat (first | (with_reducible exact HR506_4.out) | (with_reducible refine Kd.C_alloc ?_ _) | (with_reducible refine Kd.C_drewN ?_ _) | (with_reducible refine Kd.C_drew ?_) | exact HR506_4.out)) hb); have n6_ := Aside0.mk (below_step (by repeat (first | (with_reducible first | exact HB.out | apply below_alloc | apply pw_below_drewN | apply below_drew1) | exact HB.out)) hb); clear HO_8; clear HO_9; clear HO_11; clear HL506_4; clear HR506_4; clear HB; have HO_8 := n0_; have HO_9 := n1_; have HO_11 := n2_; have HL506_4 := n3_; have HO513 := n4_; have HR506_4 := n5_; have HB := n6_; clear n0_ n1_ n2_ n3_ n4_ n5_ n6_; (try clear hb); (try clear hb2); (try clear hk); (try clear hi); (try clear ho0); obtain ⟨Ao22, co22, eo22⟩ := Kd.R_slice HO513.out; subst eo22) | ((with_reducible refine gate_callee (f := 21) rfl ?_); refine goesL_ (some 51) rfl rfl Try.func21 (by kernel_rfl) rfl #[.agg #[.int .i64 t507, .int .i64 t508, .int .i64 t509, .int .i64 t510, .slice Ao22 t511.length co22]] rfl (by (try simp only [List.map_toArray, List.map_cons, List.map_nil]); first | done | rfl | (simp only [List.length_drop, List.length_take]; rfl)) ?_; (with_reducible refine (hunk_Edits.calls k2 t507 t508 t509 t510 (fun k_ => some k_ = (.slice Ao22 t511.length co22 : Value).ownBlock) _ _ t511 t514 _ ?side1 A18.out).mono ?_); (case side1 => exact Kd.R_V (Kd.R_tight rfl (Kd.R_apart' (Kd.R_apart' (Kd.R_apart' (HO513.out) (Kd.N_typed HO_8.out) (by decide)) (Kd.N_typed HO_9.out) (by decide)) (Kd.N_typed HO_11.out) (by decide)))); rintro e w23 ⟨v515, rfl, ho0, hb⟩; refine ⟨_, rfl, ?_⟩; have n0_ := Aside0.mk (Kd.N_elder' (by (with_reducible repeat (first | apply Kd.N_alloc | apply Kd.N_drewN | apply Kd.N_drew)); exact HO_8.out) (by first | exact Kd.N_base ho0 | exact Kd.S_base ho0) hb); have n1_ := Aside0.mk (Kd.N_elder' (by (with_reducible repeat (first | apply Kd.N_alloc | apply Kd.N_drewN | apply Kd.N_drew)); exact HO_9.out) (by first | exact Kd.N_base ho0 | exact Kd.S_base ho0) hb); have n2_ := Aside0.mk (Kd.N_elder' (by (with_reducible repeat (first | apply Kd.N_alloc | apply Kd.N_drewN | apply Kd.N_drew)); exact HO_11.out) (by first | exact Kd.N_base ho0 | exact Kd.S_base ho0) hb); have n3_ := Aside0.mk (Kd.V_elder' (by (with_reducible repeat (first | apply Kd.V_alloc | apply Kd.V_drewN | apply Kd.V_drew)); exact HL506_4.out) (by first | exact Kd.N_base ho0 | exact Kd.S_base ho0) hb); have n4_ := Aside0.mk (Kd.R_below (by (with_reducible repeat (first | apply Kd.R_alloc | apply Kd.R_drewN | apply Kd.R_drew)); exact HO513.out) hb); have n5_ := Aside0.mk (Kd.N_lower (by first | exact (Kd.N_mono (ok' := fun k_ => some k_ ≠ (.slice Ao13 t499.length co13 : Value).ownBlock ∧ some k_ ≠ (.slice (some ad506) t502.length co20 : Value).ownBlock ∧ some k_ ≠ (u11 : Value).ownBlock) ho0 (fun k_ hk_ => ⟨Or.elim hk_ (fun hs_ => ((Kd.R_apart' (Kd.R_apart' (Kd.R_apart' (HO513.out) (Kd.N_typed HO_8.out) (by decide)) (Kd.N_typed HO_9.out) (by decide)) (Kd.N_typed HO_11.out) (by decide)).1 k_ hs_.symm).1.1.2) (fun hn_ => (Kd.fresh' (Kd.N_lt (by (with_reducible repeat (first | apply Kd.N_alloc | apply Kd.N_drewN | apply Kd.N_drew)); exact HO_8.out)) k_ hn_)), Or.elim hk_ (fun hs_ => ((Kd.R_apart' (Kd.R_apart' (Kd.R_apart' (HO513.out) (Kd.N_typed HO_8.out) (by decide)) (Kd.N_typed HO_9.out) (by decide)) (Kd.N_typed HO_11.out) (by decide)).1 k_ hs_.symm).1.2) (fun hn_ => (Kd.fresh' (Kd.N_lt (by (with_reducible repeat (first | apply Kd.N_alloc | apply Kd.N_drewN | apply Kd.N_drew)); exact HO_9.out)) k_ hn_)), Or.elim hk_ (fun hs_ => ((Kd.R_apart' (Kd.R_apart' (Kd.R_apart' (HO513.out) (Kd.N_typed HO_8.out) (by decide)) (Kd.N_typed HO_9.out) (by decide)) (Kd.N_typed HO_11.out) (by decide)).1 k_ hs_.symm).2) (fun hn_ => (Kd.fresh' (Kd.N_lt (by (with_reducible repeat (first | apply Kd.N_alloc | apply Kd.N_drewN | apply Kd.N_drew)); exact HO_11.out)) k_ hn_))⟩)) | exact (Kd.N_mono (ok' := fun k_ => some k_ ≠ (.slice Ao13 t499.length co13 : Value).ownBlock ∧ some k_ ≠ (.slice (some ad506) t502.length co20 : Value).ownBlock ∧ some k_ ≠ (u11 : Value).ownBlock) (Kd.S_N ho0) (fun k_ hk_ => ⟨(fun hn_ => (Kd.fresh' (Kd.N_lt (by (with_reducible repeat (first | apply Kd.N_alloc | apply Kd.N_drewN | apply Kd.N_drew)); exact HO_8.out)) k_ hn_)) hk_, (fun hn_ => (Kd.fresh' (Kd.N_lt (by (with_reducible repeat (first | apply Kd.N_alloc | apply Kd.N_drewN | apply Kd.N_drew)); exact HO_9.out)) k_ hn_)) hk_, (fun hn_ => (Kd.fresh' (Kd.N_lt (by (with_reducible repeat (first | apply Kd.N_alloc | apply Kd.N_drewN | apply Kd.N_drew)); exact HO_11.out)) k_ hn_)) hk_⟩))) (below_size (by repeat (first | (with_reducible first | exact HB.out | apply below_alloc | apply pw_below_drewN | apply below_drew1) | exact HB.out)))); have n6_ := Aside0.mk (Kd.C_below (by repeat (first | (with_reducible exact HR506_4.out) | (with_reducible refine Kd.C_alloc ?_ _) | (with_reducible refine Kd.C_drewN ?_ _) | (with_reducible refine Kd.C_drew ?_) | exact HR506_4.out)) hb); have n7_ := Aside0.mk (below_step (by repeat (first | (with_reducible first | exact HB.out | apply below_alloc | apply pw_below_drewN | apply below_drew1) | exact HB.out)) hb); clear HO_8; clear HO_9; clear HO_11; clear HL506_4; clear HO513; clear HR506_4; clear HB; have HO_8 := n0_; have HO_9 := n1_; have HO_11 := n2_; have HL506_4 := n3_; have HO513 := n4_; have HO516 := n5_; have HR506_4 := n6_; have HB := n7_; clear n0_ n1_ n2_ n3_ n4_ n5_ n6_ n7_; (try clear hb); (try clear hb2); (try clear hk); (try clear hi); (try clear ho0); obtain ⟨Ao25, co25, eo25⟩ := Kd.N_slice HO516.out; subst eo25) | ((with_reducible refine gate_builtin (b := .append) (xs := #[.tmp 45, .tmp 51]) rfl ?_); (try (refine gate_guard (by rfl) ?_; dsimp only)); at_builtin; refine Kd.N_append_rows k51 (w0 := w) w.heap.size rfl (.tmp 45) (.tmp 51) 23 51 (.agg #[(.int .i64 0), (.int .i64 0), (.slice none 0 0)]) 40 rfl Try.underlying23 info51 rfl (by decide) (by omega) u11 x11_2 t514 _ _ _ (fun k_ => some k_ ≠ (.slice Ao13 t499.length co13 : Value).ownBlock ∧ some k_ ≠ (.slice (some ad506) t502.length co20 : Value).ownBlock) (fun k_ => ((fun k_ => some k_ ≠ (.slice Ao13 t499.length co13 : Value).ownBlock ∧ some k_ ≠ (.slice (some ad506) t502.length co20 : Value).ownBlock)) k_ ∧ some k_ ≠ (u11 : Value).ownBlock) rfl rfl ?aO ?aR (fun _ hk => hk) ?aF ?aB ?aS ?aL ?_; (case aR => exact (by skip; exact Kd.N_F (Kd.N_mono (ok' := (fun k_ => ((fun k_ => some k_ ≠ (.slice Ao13 t499.length co13 : Value).ownBlock ∧ some k_ ≠ (.slice (some ad506) t502.length co20 : Value).ownBlock)) k_ ∧ some k_ ≠ (u11 : Value).ownBlock)) (HO516.out) (fun k_ hk => ⟨⟨hk.1, hk.2.1⟩, hk.2.2⟩)))); (case aB => exact (by repeat (first | (with_reducible first | exact HB.out | apply below_alloc | apply pw_below_drewN | apply below_drew1) | exact HB.out))); (case aF => exact (fun k_ hk => ⟨Kd.fresh' (Kd.N_lt (by (with_reducible repeat (first | apply Kd.N_alloc | apply Kd.N_drewN | apply Kd.N_drew)); exact HO_8.out)) k_ hk, Kd.fresh' (Kd.N_lt (by (with_reducible repeat (first | apply Kd.N_alloc | apply Kd.N_drewN | apply Kd.N_drew)); exact HO_9.out)) k_ hk⟩)); (case aO => exact (by (with_reducible repeat (first | apply Kd.N_alloc | apply Kd.N_drewN | apply Kd.N_drew)); exact Kd.N_mono HO_11.out (fun _ hk => ⟨hk.1.1.1, hk.1.1.2⟩))); (case aS => exact (below_size (by repeat (first | (with_reducible first | exact HB.out | apply below_alloc | apply pw_below_drewN | apply below_drew1) | exact HB.out)))); (case aL => have := LMc19.out; omega); intro v518 w24 ho hb hg hat; rw [← Ny517.out] at ho; have n0_ := Aside0.mk (Kd.N_afterv (ok := (fun k_ => some k_ ≠ (.slice (some ad506) t502.length co20 : Value).ownBlock ∧ some k_ ≠ (.slice Ao22 t511.length co22 : Value).ownBlock ∧ some k_ ≠ (.slice Ao25 t514.length co25 : Value).ownBlock)) (by (with_reducible repeat (first | apply Kd.N_alloc | apply Kd.N_drewN | apply Kd.N_drew)); exact Kd.N_mono HO_8.out (fun _ hk => ⟨⟨hk.1.1.1, ⟨hk.1.2, hk.2⟩⟩, hk.1.1.2⟩)) hg hat); have n1_ := Aside0.mk (Kd.N_afterv (ok := (fun k_ => some k_ ≠ (.slice Ao22 t511.length co22 : Value).ownBlock ∧ some k_ ≠ (.slice Ao25 t514.length co25 : Value).ownBlock)) (by (with_reducible repeat (first | apply Kd.N_alloc | apply Kd.N_drewN | apply Kd.N_drew)); exact Kd.N_mono HO_9.out (fun _ hk => ⟨⟨hk.1.2, hk.2⟩, hk.1.1⟩)) hg hat); have n2_ := Aside0.mk (Kd.V_afterv (ok := (fun k_ => some k_ ≠ (.slice (some ad506) t502.length co20 : Value).ownBlock ∧ some k_ ≠ (.slice Ao22 t511.length co22 : Value).ownBlock ∧ some k_ ≠ (.slice Ao25 t514.length co25 : Value).ownBlock)) (by (with_reducible repeat (first | apply Kd.V_alloc | apply Kd.V_drewN | apply Kd.V_drew)); exact Kd.V_mono HL506_4.out (fun _ hk => ⟨⟨hk.1.1.2, ⟨hk.1.2, hk.2⟩⟩, hk.1.1.1⟩)) hg hat); have n3_ := Aside0.mk (Kd.R_over' (by (with_reducible repeat (first | apply Kd.R_alloc | apply Kd.R_drewN | apply Kd.R_drew)); exact HO513.out) (Kd.N_typed (by (with_reducible repeat (first | apply Kd.N_alloc | apply Kd.N_drewN | apply Kd.N_drew)); exact HO_11.out)) (by decide) hg); have n4_ := Aside0.mk (Kd.N_afterv (ok := (fun k_ => some k_ ≠ (.slice Ao13 t499.length co13 : Value).ownBlock ∧ some k_ ≠ (.slice (some ad506) t502.length co20 : Value).ownBlock)) (by (with_reducible repeat (first | apply Kd.N_alloc | apply Kd.N_drewN | apply Kd.N_drew)); exact Kd.N_mono HO516.out (fun _ hk => ⟨⟨hk.1, hk.2.1⟩, hk.2.2⟩)) hg hat); have n5_ := Aside0.mk (hb); have n6_ := Aside0.mk (ho); clear HO_8; clear HO_9; clear HL506_4; clear HO513; clear HO516; clear HB; clear HO_11; have HO_8 := n0_; have HO_9 := n1_; have HL506_4 := n2_; have HO513 := n3_; have HO516 := n4_; have HB := n5_; have HO519 := n6_; clear n0_ n1_ n2_ n3_ n4_ n5_ n6_; clear ho hb hg hat))
          go_roundg k2
          case measure => have := HJ4.out; have := HK2.out; omega
          case rel => exact ⟨(y517), (wrap64 (x12_2 + 1)), (by first | rfl | (simp; done) | (simp [*]; done)), H', ⟨by have := HJ4.out; have := HK2.out; omega⟩, ⟨by (with_reducible repeat (first | apply Kd.N_alloc | apply Kd.N_drewN | apply Kd.N_drew)); exact Kd.N_mono HO_8.out (fun _ hk => ⟨hk.1.1, hk.2⟩)⟩, ⟨by (with_reducible repeat (first | apply Kd.N_alloc | apply Kd.N_drewN | apply Kd.N_drew)); exact Kd.N_mono HO_9.out (fun _ hk => hk.2)⟩, ⟨by (with_reducible repeat (first | apply Kd.N_alloc | apply Kd.N_drewN | apply Kd.N_drew)); exact HO519.out⟩, ⟨by repeat (first | (with_reducible first | exact HB.out | apply below_alloc | apply pw_below_drewN | apply below_drew1) | exact HB.out)⟩⟩
         ·rw [if_neg c19] at H
          exact absurd H (by simp)
        ·rw [if_neg c16] at H
         exact absurd H (by simp)
       ·rw [if_neg c15] at H
        have c15b0 : decide (x12_2 < (t502.length : Int)) = false := decide_eq_false c15
        clear c15
        replace H := Option.bind_eq_some_iff.mp H
        obtain ⟨⟨t520, t523⟩, A260, H⟩ := H
        replace H : (if t498 = true then (if t523 = true then ((grapevineref01_Texts.f k2 t520 l0).bind fun t524 => (if t524 = true then ((diff_Turn.f k2 l0 t499).bind fun t525 => ((grapevineref04_Same.f x11_2 t525).bind fun t528 => (some t528))) else (some false))) else (some false)) else (some false)) = some r := H
        have A26 := Aside0.mk A260
        clear A260
        by_cases c27 : t498 = true
        ·subst c27
         have H1 : (if t523 = true then ((grapevineref01_Texts.f k2 t520 l0).bind fun t524 => (if t524 = true then ((diff_Turn.f k2 l0 t499).bind fun t525 => ((grapevineref04_Same.f x11_2 t525).bind fun t528 => (some t528))) else (some false))) else (some false)) = some r := by rw [if_pos rfl] at H; exact H
         clear H
         have H := H1
         clear H1
         by_cases c28 : t523 = true
         ·subst c28
          have H1 : ((grapevineref01_Texts.f k2 t520 l0).bind fun t524 => (if t524 = true then ((diff_Turn.f k2 l0 t499).bind fun t525 => ((grapevineref04_Same.f x11_2 t525).bind fun t528 => (some t528))) else (some false))) = some r := by rw [if_pos rfl] at H; exact H
          clear H
          have H := H1
          clear H1
          replace H := Option.bind_eq_some_iff.mp H
          obtain ⟨t524, A290, H⟩ := H
          replace H : (if t524 = true then ((diff_Turn.f k2 l0 t499).bind fun t525 => ((grapevineref04_Same.f x11_2 t525).bind fun t528 => (some t528))) else (some false)) = some r := H
          have A29 := Aside0.mk A290
          clear A290
          by_cases c30 : t524 = true
          ·subst c30
           have H1 : ((diff_Turn.f k2 l0 t499).bind fun t525 => ((grapevineref04_Same.f x11_2 t525).bind fun t528 => (some t528))) = some r := by rw [if_pos rfl] at H; exact H
           clear H
           have H := H1
           clear H1
           replace H := Option.bind_eq_some_iff.mp H
           obtain ⟨t525, A310, H⟩ := H
           replace H : ((grapevineref04_Same.f x11_2 t525).bind fun t528 => (some t528)) = some r := H
           have A31 := Aside0.mk A310
           clear A310
           replace H := Option.bind_eq_some_iff.mp H
           obtain ⟨t528, A320, H⟩ := H
           replace H : (some t528) = some r := H
           have A32 := Aside0.mk A320
           clear A320
           obtain rfl := Option.some.inj H
           obtain ⟨Ao33, co33, eo33⟩ := Kd.N_slice HO_9.out
           subst eo33
           obtain ⟨Ao34, co34, eo34⟩ := Kd.N_slice HO_11.out
           subst eo34
           go_wp2_with (first | ((with_reducible refine gate_callee (f := 25) rfl ?_); refine goesL_ (some 56) rfl rfl Try.func25 (by kernel_rfl) rfl #[.slice A1 l1.length c1, .slice Ao34 x11_2.length co34] rfl (by (try simp only [List.map_toArray, List.map_cons, List.map_nil]); first | done | rfl | (simp only [List.length_drop, List.length_take]; rfl)) ?_; (with_reducible refine (diff_Play.calls k2 (fun k_ => k_ < w.heap.size) _ _ l1 (fun k_ => (some k_ ≠ (.slice Ao13 t499.length co13 : Value).ownBlock ∧ some k_ ≠ (.slice Ao33 t502.length co33 : Value).ownBlock)) _ _ x11_2 t520 true _ ?side1 ?side2 A26.out).mono ?_); (case side1 => exact Kd.V_mk HC1.out (Kd.F_below (Kd.C_F Kd.heap_string HR1.out) (by repeat (first | (with_reducible first | exact HB.out | apply below_alloc | apply pw_below_drewN | apply below_drew1) | exact HB.out)))); (case side2 => exact Kd.N_V (HO_11.out)); rintro e w35 ⟨v521, rfl, ho0, hb⟩; refine ⟨_, rfl, ?_⟩; have n0_ := Aside0.mk (Kd.N_elder' (by (with_reducible repeat (first | apply Kd.N_alloc | apply Kd.N_drewN | apply Kd.N_drew)); exact HO_8.out) (Kd.R_base ho0) hb); have n1_ := Aside0.mk (Kd.N_elder' (by (with_reducible repeat (first | apply Kd.N_alloc | apply Kd.N_drewN | apply Kd.N_drew)); exact HO_9.out) (Kd.R_base ho0) hb); have n2_ := Aside0.mk (Kd.N_elder' (by (with_reducible repeat (first | apply Kd.N_alloc | apply Kd.N_drewN | apply Kd.N_drew)); exact HO_11.out) (Kd.R_base ho0) hb); have n3_ := Aside0.mk (Kd.R_lower (Kd.R_mono (ok' := fun k_ => True) ho0 (fun _ hk_ => trivial)) (below_size (by repeat (first | (with_reducible first | exact HB.out | apply below_alloc | apply pw_below_drewN | apply below_drew1) | exact HB.out)))); have n4_ := Aside0.mk (below_step (by repeat (first | (with_reducible first | exact HB.out | apply below_alloc | apply pw_below_drewN | apply below_drew1) | exact HB.out)) hb); clear HO_8; clear HO_9; clear HO_11; clear HB; have HO_8 := n0_; have HO_9 := n1_; have HO_11 := n2_; have HO522 := n3_; have HB := n4_; clear n0_ n1_ n2_ n3_ n4_; (try clear hb); (try clear hb2); (try clear hk); (try clear hi); (try clear ho0); obtain ⟨Ao36, co36, eo36⟩ := Kd.R_slice HO522.out; subst eo36) | (go_at_call 26; (with_reducible refine (grapevineref01_Texts.calls k2 _ _ t520 _ _ l0 true _ ?side1 ?side2 ?side3 ?side4 A29.out).mono ?_); (case side1 => repeat (first | exact (Kd.R_reads' HO522.out).2.2 | (with_reducible refine Kd.C_alloc ?_ _) | (with_reducible refine Kd.C_drewN ?_ _) | (with_reducible refine Kd.C_drew ?_))); (case side2 => exact (Kd.R_reads' HO522.out).2.1); (case side3 => repeat (first | exact (Kd.C_below HR0.out HB.out) | (with_reducible refine Kd.C_alloc ?_ _) | (with_reducible refine Kd.C_drewN ?_ _) | (with_reducible refine Kd.C_drew ?_))); (case side4 => exact HC0.out); rintro e w' ⟨rfl, ⟨nd, rfl⟩⟩) | (go_at_call 27; (with_reducible refine (diff_Turn.calls k2 _ _ l0 _ _ t499 t525 _ ?side1 ?side2 ?side3 ?side4 A31.out).mono ?_); (case side1 => repeat (first | exact (Kd.C_below HR0.out (by repeat (first | (with_reducible first | exact HB.out | apply below_alloc | apply pw_below_drewN | apply below_drew1) | exact HB.out))) | (with_reducible refine Kd.C_alloc ?_ _) | (with_reducible refine Kd.C_drewN ?_ _) | (with_reducible refine Kd.C_drew ?_))); (case side2 => exact HC0.out); (case side3 => repeat (first | exact (Kd.N_reads' HO_8.out).2.2 | (with_reducible refine Kd.C_alloc ?_ _) | (with_reducible refine Kd.C_drewN ?_ _) | (with_reducible refine Kd.C_drew ?_))); (case side4 => exact (Kd.N_reads' HO_8.out).2.1); rintro e w37 ⟨v526, rfl, ho0, hb⟩; have n0_ := Aside0.mk (Kd.N_elder' (by (with_reducible repeat (first | apply Kd.N_alloc | apply Kd.N_drewN | apply Kd.N_drew)); exact HO_8.out) (by first | exact Kd.N_base ho0 | exact Kd.S_base ho0) hb); have n1_ := Aside0.mk (Kd.N_elder' (by (with_reducible repeat (first | apply Kd.N_alloc | apply Kd.N_drewN | apply Kd.N_drew)); exact HO_9.out) (by first | exact Kd.N_base ho0 | exact Kd.S_base ho0) hb); have n2_ := Aside0.mk (Kd.N_elder' (by (with_reducible repeat (first | apply Kd.N_alloc | apply Kd.N_drewN | apply Kd.N_drew)); exact HO_11.out) (by first | exact Kd.N_base ho0 | exact Kd.S_base ho0) hb); have n3_ := Aside0.mk (Kd.R_below (by (with_reducible repeat (first | apply Kd.R_alloc | apply Kd.R_drewN | apply Kd.R_drew)); exact HO522.out) hb); have n4_ := Aside0.mk (Kd.N_lower (Kd.N_mono (ok' := fun k_ => some k_ ≠ (.slice Ao13 t499.length co13 : Value).ownBlock ∧ some k_ ≠ (.slice Ao33 t502.length co33 : Value).ownBlock ∧ some k_ ≠ (.slice Ao34 x11_2.length co34 : Value).ownBlock ∧ some k_ ≠ (.slice Ao36 t520.length co36 : Value).ownBlock) (Kd.S_N (Kd.S_bound ho0)) (fun k_ hk_ => ⟨(Kd.fresh' (Kd.N_lt (by (with_reducible repeat (first | apply Kd.N_alloc | apply Kd.N_drewN | apply Kd.N_drew)); exact HO_8.out)) k_ hk_.2.1), (Kd.fresh' (Kd.N_lt (by (with_reducible repeat (first | apply Kd.N_alloc | apply Kd.N_drewN | apply Kd.N_drew)); exact HO_9.out)) k_ hk_.2.1), (Kd.fresh' (Kd.N_lt (by (with_reducible repeat (first | apply Kd.N_alloc | apply Kd.N_drewN | apply Kd.N_drew)); exact HO_11.out)) k_ hk_.2.1), (Kd.fresh' (Kd.R_lt (by (with_reducible repeat (first | apply Kd.R_alloc | apply Kd.R_drewN | apply Kd.R_drew)); exact HO522.out)) k_ hk_.2.1)⟩)) (below_size (by repeat (first | (with_reducible first | exact HB.out | apply below_alloc | apply pw_below_drewN | apply below_drew1) | exact HB.out)))); have n5_ := Aside0.mk (below_step (by repeat (first | (with_reducible first | exact HB.out | apply below_alloc | apply pw_below_drewN | apply below_drew1) | exact HB.out)) hb); clear HO_8; clear HO_9; clear HO_11; clear HO522; clear HB; have HO_8 := n0_; have HO_9 := n1_; have HO_11 := n2_; have HO522 := n3_; have HO527 := n4_; have HB := n5_; clear n0_ n1_ n2_ n3_ n4_ n5_; (try clear hb); (try clear hb2); (try clear hk); (try clear hi); (try clear ho0); obtain ⟨Ao38, co38, eo38⟩ := Kd.N_slice HO527.out; subst eo38) | (go_at_call 20; (with_reducible refine (grapevineref04_Same.calls _ _ x11_2 _ _ t525 t528 _ ?side1 ?side2 ?side3 ?side4 A32.out).mono ?_); (case side1 => repeat (first | exact (Kd.N_reads' HO_11.out).2.2 | (with_reducible refine Kd.C_alloc ?_ _) | (with_reducible refine Kd.C_drewN ?_ _) | (with_reducible refine Kd.C_drew ?_))); (case side2 => exact (Kd.N_reads' HO_11.out).2.1); (case side3 => repeat (first | exact (Kd.N_reads' HO527.out).2.2 | (with_reducible refine Kd.C_alloc ?_ _) | (with_reducible refine Kd.C_drewN ?_ _) | (with_reducible refine Kd.C_drew ?_))); (case side4 => exact (Kd.N_reads' HO527.out).2.1); rintro e w' ⟨rfl, ⟨nd, rfl⟩⟩))
           go_ret
           exact ⟨by first | rfl | (simp [errW_none, errW_some] <;> rfl) | (simp [*, errW_none, errW_some] <;> rfl), by repeat (first | (with_reducible first | exact HB.out | apply below_alloc | apply pw_below_drewN | apply below_drew1) | exact HB.out)⟩
          ·replace c30 := Bool.eq_false_iff.mpr c30
           subst c30
           have H1 : (some false) = some r := by rw [if_neg (show ¬ (false = true) by decide)] at H; exact H
           clear H
           have H := H1
           clear H1
           exact absurd (H.trans (congrArg some hrt_.out)) (by simp)
         ·replace c28 := Bool.eq_false_iff.mpr c28
          subst c28
          have H1 : (some false) = some r := by rw [if_neg (show ¬ (false = true) by decide)] at H; exact H
          clear H
          have H := H1
          clear H1
          exact absurd (H.trans (congrArg some hrt_.out)) (by simp)
        ·replace c27 := Bool.eq_false_iff.mpr c27
         subst c27
         have H1 : (some false) = some r := by rw [if_neg (show ¬ (false = true) by decide)] at H; exact H
         clear H
         have H := H1
         clear H1
         exact absurd (H.trans (congrArg some hrt_.out)) (by simp)
    ·rw [if_neg c11] at H
     have c11b0 : (t505 == 0) = false := beq_eq_false_iff_ne.mpr c11
     have c11b1 : (t505 != 0) = true := bne_iff_ne.mpr c11
     exact absurd (H.trans (congrArg some hrt_.out)) (by simp)

end Go.Proofs.Ytlabiajcohmjhaa.Pr
