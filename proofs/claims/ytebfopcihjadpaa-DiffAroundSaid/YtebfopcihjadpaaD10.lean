-- written by a program of this session's (a turned copy of the kit's printer); Lean checks it
import Derived.Test.YtebfopcihjadpaaD0
import Derived.Test.YtebfopcihjadpaaGAwake
import Derived.Test.YtebfopcihjadpaaGDiff
import Derived.Test.YtebfopcihjadpaaGSame
namespace Go.Proofs.Ytebfopcihjadpaa.Pr
open Go.RowKit Go.Proofs.YtebfopcihjadpaaW.PrintWords Go.Proofs.YtebfopcihjadpaaW.PrintLast Go.Proofs.YtebfopcihjadpaaW.PrintMore
attribute [local go_sem] max2_int min2_int max_two min_two max_three min_three max_four min_four   -- for this text's walks alone
set_option linter.unusedVariables false
set_option linter.unusedSimpArgs false

/-! ### grapevinelaw04_DiffAround: function 9 -/
mutual
def grapevinelaw04_DiffAround.j0 : Nat → List ByteArray → List ByteArray → Int → Int → Bool → Bool → Option (Bool)
  | 0, _, _, _, _, _, _ => none
  | k + 1, x0, x1, x2, x3, x9, x28 => if x28 = true then (some x9) else (grapevinelaw04_DiffAround.l0 k x0 x1 x2 x3 x9 (⟨#[46]⟩ : ByteArray) 0)
def grapevinelaw04_DiffAround.l0 : Nat → List ByteArray → List ByteArray → Int → Int → Bool → ByteArray → Int → Option (Bool)
  | 0, _, _, _, _, _, _, _ => none
  | k + 1, x0, x1, x2, x3, x9, x12, x13 => if x13 < (x0.length : Int) then (if 0 ≤ x13 then (if x12.size + (rdOf ByteArray.empty x0 x13).size ≤ 9223372036854775807 then (grapevinelaw04_DiffAround.l0 k x0 x1 x2 x3 x9 (x12 ++ (rdOf ByteArray.empty x0 x13)) (wrap64 (x13 + 1))) else (none)) else (none)) else (grapevinelaw04_DiffAround.l1 k x0 x1 x2 x3 x9 x12 0)
def grapevinelaw04_DiffAround.l1 : Nat → List ByteArray → List ByteArray → Int → Int → Bool → ByteArray → Int → Option (Bool)
  | 0, _, _, _, _, _, _, _ => none
  | k + 1, x0, x1, x2, x3, x9, x12, x14 => if x14 < (x1.length : Int) then (if 0 ≤ x14 then (if x12.size + (rdOf ByteArray.empty x1 x14).size ≤ 9223372036854775807 then (grapevinelaw04_DiffAround.l1 k x0 x1 x2 x3 x9 (x12 ++ (rdOf ByteArray.empty x1 x14)) (wrap64 (x14 + 1))) else (none)) else (none)) else (grapevinelaw04_DiffAround.l2 k x0 x1 x2 x3 x9 ([] : List ByteArray) x12 0)
def grapevinelaw04_DiffAround.l2 : Nat → List ByteArray → List ByteArray → Int → Int → Bool → List ByteArray → ByteArray → Int → Option (Bool)
  | 0, _, _, _, _, _, _, _, _ => none
  | k + 1, x0, x1, x2, x3, x9, x10, x12, x15 => if x15 < (wrap64 (Int.tmod x2 9)) then (if x10.length < 8796093022208 then (grapevinelaw04_DiffAround.l2 k x0 x1 x2 x3 x9 (x10 ++ [x12]) x12 (wrap64 (x15 + 1))) else (none)) else (grapevinelaw04_DiffAround.l3 k x0 x1 x3 x9 x10 ([] : List ByteArray) x12 0)
def grapevinelaw04_DiffAround.l3 : Nat → List ByteArray → List ByteArray → Int → Bool → List ByteArray → List ByteArray → ByteArray → Int → Option (Bool)
  | 0, _, _, _, _, _, _, _, _ => none
  | k + 1, x0, x1, x3, x9, x10, x11, x12, x16 => if x16 < (wrap64 (Int.tmod x3 9)) then (if x11.length < 8796093022208 then (grapevinelaw04_DiffAround.l3 k x0 x1 x3 x9 x10 (x11 ++ [x12]) x12 (wrap64 (x16 + 1))) else (none)) else ((diff_Diff.f x0 x1).bind fun t308 => ((some (([] : List ByteArray) : List ByteArray)).bind fun y311 => (if y311.length + x10.length < 8796093022208 then ((some (y311 ++ x10 : List ByteArray)).bind fun y314 => (if y314.length + x0.length < 8796093022208 then ((some (y314 ++ x0 : List ByteArray)).bind fun y317 => (if y317.length + x11.length < 8796093022208 then ((some (([] : List ByteArray) : List ByteArray)).bind fun y323 => (if y323.length + x10.length < 8796093022208 then ((some (y323 ++ x10 : List ByteArray)).bind fun y326 => (if y326.length + x1.length < 8796093022208 then ((some (y326 ++ x1 : List ByteArray)).bind fun y329 => (if y329.length + x11.length < 8796093022208 then ((diff_Diff.f (y317 ++ x11) (y329 ++ x11)).bind fun t335 => (if (t308.length : Int) = (t335.length : Int) then (grapevinelaw04_DiffAround.l4 k x9 x10 t308 t335 0) else (some false))) else (none))) else (none))) else (none))) else (none))) else (none))) else (none))))
def grapevinelaw04_DiffAround.l4 : Nat → Bool → List ByteArray → List (S29) → List (S29) → Int → Option (Bool)
  | 0, _, _, _, _, _ => none
  | k + 1, x9, x10, x17, x18, x19 => if x19 < (x18.length : Int) then (if 0 ≤ x19 then (grapevinelaw04_DiffAround.l4 k x9 x10 x17 (x18.set (x19 : Int).toNat (⟨wrap64 (((rd_T29 x18 x19).f0) - (x10.length : Int)), (rd_T29 x18 x19).f1, (rd_T29 x18 x19).f2⟩ : S29)) (wrap64 (x19 + 1))) else (none)) else (if x9 = true then ((grapevineref04_Same.f x17 x18).bind fun t340 => (some t340)) else (some false))
end
def grapevinelaw04_DiffAround.f (k : Nat) (l0 : List ByteArray) (l1 : List ByteArray) (a2 : Int) (a3 : Int) : Option (Bool) := (grapevinelaw04_awake.f).bind fun t299 => (if (l0.length : Int) > 12 then (grapevinelaw04_DiffAround.j0 k l0 l1 a2 a3 t299 true) else (grapevinelaw04_DiffAround.j0 k l0 l1 a2 a3 t299 (decide ((l1.length : Int) > 12))))
theorem grapevinelaw04_DiffAround.mono_l : ∀ k, (∀ y0 y1 y2 y3 y4 y5, LeO (grapevinelaw04_DiffAround.j0 k y0 y1 y2 y3 y4 y5) (grapevinelaw04_DiffAround.j0 (k + 1) y0 y1 y2 y3 y4 y5)) ∧ (∀ y0 y1 y2 y3 y4 y5 y6, LeO (grapevinelaw04_DiffAround.l0 k y0 y1 y2 y3 y4 y5 y6) (grapevinelaw04_DiffAround.l0 (k + 1) y0 y1 y2 y3 y4 y5 y6)) ∧ (∀ y0 y1 y2 y3 y4 y5 y6, LeO (grapevinelaw04_DiffAround.l1 k y0 y1 y2 y3 y4 y5 y6) (grapevinelaw04_DiffAround.l1 (k + 1) y0 y1 y2 y3 y4 y5 y6)) ∧ (∀ y0 y1 y2 y3 y4 y5 y6 y7, LeO (grapevinelaw04_DiffAround.l2 k y0 y1 y2 y3 y4 y5 y6 y7) (grapevinelaw04_DiffAround.l2 (k + 1) y0 y1 y2 y3 y4 y5 y6 y7)) ∧ (∀ y0 y1 y2 y3 y4 y5 y6 y7, LeO (grapevinelaw04_DiffAround.l3 k y0 y1 y2 y3 y4 y5 y6 y7) (grapevinelaw04_DiffAround.l3 (k + 1) y0 y1 y2 y3 y4 y5 y6 y7)) ∧ (∀ y0 y1 y2 y3 y4, LeO (grapevinelaw04_DiffAround.l4 k y0 y1 y2 y3 y4) (grapevinelaw04_DiffAround.l4 (k + 1) y0 y1 y2 y3 y4))
  | 0 => ⟨fun _ _ _ _ _ _ r h => by simp [grapevinelaw04_DiffAround.j0] at h, fun _ _ _ _ _ _ _ r h => by simp [grapevinelaw04_DiffAround.l0] at h, fun _ _ _ _ _ _ _ r h => by simp [grapevinelaw04_DiffAround.l1] at h, fun _ _ _ _ _ _ _ _ r h => by simp [grapevinelaw04_DiffAround.l2] at h, fun _ _ _ _ _ _ _ _ r h => by simp [grapevinelaw04_DiffAround.l3] at h, fun _ _ _ _ _ r h => by simp [grapevinelaw04_DiffAround.l4] at h⟩
  | k + 1 => by
    obtain ⟨ih0, ih1, ih2, ih3, ih4, ih5⟩ := grapevinelaw04_DiffAround.mono_l k
    refine ⟨?_, ?_, ?_, ?_, ?_, ?_⟩
    · intro y0 y1 y2 y3 y4 y5
      unfold grapevinelaw04_DiffAround.j0
      repeat' first
      | (with_reducible exact ih0 _ _ _ _ _ _)
      | (with_reducible exact ih1 _ _ _ _ _ _ _)
      | (with_reducible exact ih2 _ _ _ _ _ _ _)
      | (with_reducible exact ih3 _ _ _ _ _ _ _ _)
      | (with_reducible exact ih4 _ _ _ _ _ _ _ _)
      | (with_reducible exact ih5 _ _ _ _ _)
      | (with_reducible exact LeO.refl _)
      | (with_reducible exact LeO.none _)
      | (with_reducible refine LeO.ite ?_ ?_)
      | (with_reducible refine LeO.bind ?_ (fun _ => ?_))
      | exact ih0 _ _ _ _ _ _
      | exact ih1 _ _ _ _ _ _ _
      | exact ih2 _ _ _ _ _ _ _
      | exact ih3 _ _ _ _ _ _ _ _
      | exact ih4 _ _ _ _ _ _ _ _
      | exact ih5 _ _ _ _ _
      | exact LeO.none _
      | refine LeO.ite ?_ ?_
      | refine LeO.bind ?_ (fun _ => ?_)
    · intro y0 y1 y2 y3 y4 y5 y6
      unfold grapevinelaw04_DiffAround.l0
      repeat' first
      | (with_reducible exact ih0 _ _ _ _ _ _)
      | (with_reducible exact ih1 _ _ _ _ _ _ _)
      | (with_reducible exact ih2 _ _ _ _ _ _ _)
      | (with_reducible exact ih3 _ _ _ _ _ _ _ _)
      | (with_reducible exact ih4 _ _ _ _ _ _ _ _)
      | (with_reducible exact ih5 _ _ _ _ _)
      | (with_reducible exact LeO.refl _)
      | (with_reducible exact LeO.none _)
      | (with_reducible refine LeO.ite ?_ ?_)
      | (with_reducible refine LeO.bind ?_ (fun _ => ?_))
      | exact ih0 _ _ _ _ _ _
      | exact ih1 _ _ _ _ _ _ _
      | exact ih2 _ _ _ _ _ _ _
      | exact ih3 _ _ _ _ _ _ _ _
      | exact ih4 _ _ _ _ _ _ _ _
      | exact ih5 _ _ _ _ _
      | exact LeO.none _
      | refine LeO.ite ?_ ?_
      | refine LeO.bind ?_ (fun _ => ?_)
    · intro y0 y1 y2 y3 y4 y5 y6
      unfold grapevinelaw04_DiffAround.l1
      repeat' first
      | (with_reducible exact ih0 _ _ _ _ _ _)
      | (with_reducible exact ih1 _ _ _ _ _ _ _)
      | (with_reducible exact ih2 _ _ _ _ _ _ _)
      | (with_reducible exact ih3 _ _ _ _ _ _ _ _)
      | (with_reducible exact ih4 _ _ _ _ _ _ _ _)
      | (with_reducible exact ih5 _ _ _ _ _)
      | (with_reducible exact LeO.refl _)
      | (with_reducible exact LeO.none _)
      | (with_reducible refine LeO.ite ?_ ?_)
      | (with_reducible refine LeO.bind ?_ (fun _ => ?_))
      | exact ih0 _ _ _ _ _ _
      | exact ih1 _ _ _ _ _ _ _
      | exact ih2 _ _ _ _ _ _ _
      | exact ih3 _ _ _ _ _ _ _ _
      | exact ih4 _ _ _ _ _ _ _ _
      | exact ih5 _ _ _ _ _
      | exact LeO.none _
      | refine LeO.ite ?_ ?_
      | refine LeO.bind ?_ (fun _ => ?_)
    · intro y0 y1 y2 y3 y4 y5 y6 y7
      unfold grapevinelaw04_DiffAround.l2
      repeat' first
      | (with_reducible exact ih0 _ _ _ _ _ _)
      | (with_reducible exact ih1 _ _ _ _ _ _ _)
      | (with_reducible exact ih2 _ _ _ _ _ _ _)
      | (with_reducible exact ih3 _ _ _ _ _ _ _ _)
      | (with_reducible exact ih4 _ _ _ _ _ _ _ _)
      | (with_reducible exact ih5 _ _ _ _ _)
      | (with_reducible exact LeO.refl _)
      | (with_reducible exact LeO.none _)
      | (with_reducible refine LeO.ite ?_ ?_)
      | (with_reducible refine LeO.bind ?_ (fun _ => ?_))
      | exact ih0 _ _ _ _ _ _
      | exact ih1 _ _ _ _ _ _ _
      | exact ih2 _ _ _ _ _ _ _
      | exact ih3 _ _ _ _ _ _ _ _
      | exact ih4 _ _ _ _ _ _ _ _
      | exact ih5 _ _ _ _ _
      | exact LeO.none _
      | refine LeO.ite ?_ ?_
      | refine LeO.bind ?_ (fun _ => ?_)
    · intro y0 y1 y2 y3 y4 y5 y6 y7
      unfold grapevinelaw04_DiffAround.l3
      repeat' first
      | (with_reducible exact ih0 _ _ _ _ _ _)
      | (with_reducible exact ih1 _ _ _ _ _ _ _)
      | (with_reducible exact ih2 _ _ _ _ _ _ _)
      | (with_reducible exact ih3 _ _ _ _ _ _ _ _)
      | (with_reducible exact ih4 _ _ _ _ _ _ _ _)
      | (with_reducible exact ih5 _ _ _ _ _)
      | (with_reducible exact LeO.refl _)
      | (with_reducible exact LeO.none _)
      | (with_reducible refine LeO.ite ?_ ?_)
      | (with_reducible refine LeO.bind ?_ (fun _ => ?_))
      | exact ih0 _ _ _ _ _ _
      | exact ih1 _ _ _ _ _ _ _
      | exact ih2 _ _ _ _ _ _ _
      | exact ih3 _ _ _ _ _ _ _ _
      | exact ih4 _ _ _ _ _ _ _ _
      | exact ih5 _ _ _ _ _
      | exact LeO.none _
      | refine LeO.ite ?_ ?_
      | refine LeO.bind ?_ (fun _ => ?_)
    · intro y0 y1 y2 y3 y4
      unfold grapevinelaw04_DiffAround.l4
      repeat' first
      | (with_reducible exact ih0 _ _ _ _ _ _)
      | (with_reducible exact ih1 _ _ _ _ _ _ _)
      | (with_reducible exact ih2 _ _ _ _ _ _ _)
      | (with_reducible exact ih3 _ _ _ _ _ _ _ _)
      | (with_reducible exact ih4 _ _ _ _ _ _ _ _)
      | (with_reducible exact ih5 _ _ _ _ _)
      | (with_reducible exact LeO.refl _)
      | (with_reducible exact LeO.none _)
      | (with_reducible refine LeO.ite ?_ ?_)
      | (with_reducible refine LeO.bind ?_ (fun _ => ?_))
      | exact ih0 _ _ _ _ _ _
      | exact ih1 _ _ _ _ _ _ _
      | exact ih2 _ _ _ _ _ _ _
      | exact ih3 _ _ _ _ _ _ _ _
      | exact ih4 _ _ _ _ _ _ _ _
      | exact ih5 _ _ _ _ _
      | exact LeO.none _
      | refine LeO.ite ?_ ?_
      | refine LeO.bind ?_ (fun _ => ?_)
theorem grapevinelaw04_DiffAround.mono : ∀ a0 a1 a2 a3 k, LeO (grapevinelaw04_DiffAround.f k a0 a1 a2 a3) (grapevinelaw04_DiffAround.f (k + 1) a0 a1 a2 a3) := by
  intro a0 a1 a2 a3 k
  obtain ⟨ih0, ih1, ih2, ih3, ih4, ih5⟩ := grapevinelaw04_DiffAround.mono_l k
  unfold grapevinelaw04_DiffAround.f
  repeat' first
      | (with_reducible exact ih0 _ _ _ _ _ _)
      | (with_reducible exact ih1 _ _ _ _ _ _ _)
      | (with_reducible exact ih2 _ _ _ _ _ _ _)
      | (with_reducible exact ih3 _ _ _ _ _ _ _ _)
      | (with_reducible exact ih4 _ _ _ _ _ _ _ _)
      | (with_reducible exact ih5 _ _ _ _ _)
      | (with_reducible exact LeO.refl _)
      | (with_reducible exact LeO.none _)
      | (with_reducible refine LeO.ite ?_ ?_)
      | (with_reducible refine LeO.bind ?_ (fun _ => ?_))
      | exact ih0 _ _ _ _ _ _
      | exact ih1 _ _ _ _ _ _ _
      | exact ih2 _ _ _ _ _ _ _
      | exact ih3 _ _ _ _ _ _ _ _
      | exact ih4 _ _ _ _ _ _ _ _
      | exact ih5 _ _ _ _ _
      | exact LeO.none _
      | refine LeO.ite ?_ ?_
      | refine LeO.bind ?_ (fun _ => ?_)
set_option maxHeartbeats 8000000 in
set_option maxRecDepth 100000 in
theorem grapevinelaw04_DiffAround.calls (k : Nat) (A0 : Option Addr) (c0 : Nat) (l0 : List ByteArray) (A1 : Option Addr) (c1 : Nat) (l1 : List ByteArray) (a2 : Int) (a3 : Int) (r : Bool) (w : World) (hrt_ : Aside0 (r = true)) (hr0 : Kd.C Kd.string w A0 l0.length l0) (hc0 : l0.length ≤ c0) (hr1 : Kd.C Kd.string w A1 l1.length l1) (hc1 : l1.length ≤ c1) (h : grapevinelaw04_DiffAround.f k l0 l1 a2 a3 = some r) :
    Calls Try.prog 9 #[.slice A0 l0.length c0, .slice A1 l1.length c1, .int .u8 a2, .int .u8 a3] w fun e w' => e = .returned (.bool r) ∧ Below w.heap.size w w' := by
  have HR0 := Aside0.mk hr0
  have HC0 := Aside0.mk hc0
  clear hr0 hc0
  have HR1 := Aside0.mk hr1
  have HC1 := Aside0.mk hc1
  clear hr1 hc1
  have HB := Aside0.mk (Below.refl w.heap.size w)
  have H : ((grapevinelaw04_awake.f).bind fun t299 => (if (l0.length : Int) > 12 then (grapevinelaw04_DiffAround.j0 k l0 l1 a2 a3 t299 true) else (grapevinelaw04_DiffAround.j0 k l0 l1 a2 a3 t299 (decide ((l1.length : Int) > 12))))) = some r := h
  clear h
  replace H := Option.bind_eq_some_iff.mp H
  obtain ⟨t299, A50, H⟩ := H
  replace H : (if (l0.length : Int) > 12 then (grapevinelaw04_DiffAround.j0 k l0 l1 a2 a3 t299 true) else (grapevinelaw04_DiffAround.j0 k l0 l1 a2 a3 t299 (decide ((l1.length : Int) > 12)))) = some r := H
  have A5 := Aside0.mk A50
  clear A50
  have HC6 := Aside0.mk H
  clear H
  go_enter Try.func9, Try.ntmps9
  go_upto_region 2 with (first | ((with_reducible refine gate_callee (f := 13) rfl ?_); refine goesL_ (some 20) rfl rfl Try.func13 (by kernel_rfl) rfl #[] rfl (by (try simp only [List.map_toArray, List.map_cons, List.map_nil]); first | done | rfl | (simp only [List.length_drop, List.length_take]; rfl)) ?_; (with_reducible refine (grapevinelaw04_awake.calls  t299 _ A5.out).mono ?_); rintro e w7 ⟨rfl, hb⟩; refine ⟨_, rfl, ?_⟩; have n0_ := Aside0.mk (below_step (by repeat (first | (with_reducible first | exact HB.out | apply below_alloc | apply pw_below_drewN | apply below_drew1) | exact HB.out)) hb); clear HB; have HB := n0_; clear n0_; (try clear hb); (try clear hb2); (try clear hk); (try clear hi)))
  (try simp only [Act.put, List.setIfInBounds_toArray, List.set_cons_zero, List.set_cons_succ])
  go_cut [28] (fun v28 wc => ∃ (kq : Nat) (x28_5 : Bool), v28 = .bool x28_5 ∧ Aside0 (grapevinelaw04_DiffAround.j0 kq l0 l1 a2 a3 t299 x28_5 = some r) ∧ Aside0 (kq ≤ k) ∧ Aside0 (Below w.heap.size w wc))
  case first =>
    have H := HC6.out
    clear HC6
    by_cases c8 : (l0.length : Int) > 12
    · rw [if_pos c8] at H
      have c8b0 : decide (12 < (l0.length : Int)) = true := decide_eq_true c8
      have c8b1 : decide (12 < l0.length) = true := decide_eq_true (by omega)
      clear c8
      (first | rw [c8b0] | (simp only [i64_w, i32_w]; rw [c8b0]) | skip)
      have H' := Aside0.mk H
      clear H
      go_wp2
      go_meet
      case rel => exact ⟨_, (true), (by first | rfl | (simp; done) | (simp [*]; done)), H', ⟨by first | omega | exact Nat.le_refl _⟩, ⟨by repeat (first | (with_reducible first | exact HB.out | apply below_alloc | apply pw_below_drewN | apply below_drew1) | exact HB.out)⟩⟩
    · rw [if_neg c8] at H
      have c8b0 : decide (12 < (l0.length : Int)) = false := decide_eq_false c8
      have c8b1 : decide (12 < l0.length) = false := decide_eq_false (by omega)
      clear c8
      (first | rw [c8b0] | (simp only [i64_w, i32_w]; rw [c8b0]) | skip)
      have H' := Aside0.mk H
      clear H
      go_wp2
      go_meet
      case rel => exact ⟨_, (decide ((l1.length : Int) > 12)), (by first | rfl | (simp; done) | (simp [*]; done)), H', ⟨by first | omega | exact Nat.le_refl _⟩, ⟨by repeat (first | (with_reducible first | exact HB.out | apply below_alloc | apply pw_below_drewN | apply below_drew1) | exact HB.out)⟩⟩
  case rest =>
    clear HC6
    try clear c1
    try clear p2
    try clear c8
    try clear c8b0
    try clear c8b1
    obtain ⟨kq, x28_5, rfl, HA, HJ5, HB⟩ := hcut
    cases kq with
    | zero => exact absurd HA.out (by simp [grapevinelaw04_DiffAround.j0])
    | succ kj5 =>
      have H := HA.out
      clear HA
      simp only [grapevinelaw04_DiffAround.j0] at H
      by_cases c9 : x28_5 = true
      · subst c9
        have H1 : (some t299) = some r := by rw [if_pos rfl] at H; exact H
        clear H
        have H := H1
        clear H1
        obtain rfl := Option.some.inj H
        go_wp2
        go_ret
        exact ⟨by first | rfl | (simp [errW_none, errW_some] <;> rfl) | (simp [*, errW_none, errW_some] <;> rfl), by repeat (first | (with_reducible first | exact HB.out | apply below_alloc | apply pw_below_drewN | apply below_drew1) | exact HB.out)⟩
      · replace c9 := Bool.eq_false_iff.mpr c9
        subst c9
        have H1 : (grapevinelaw04_DiffAround.l0 kj5 l0 l1 a2 a3 t299 (⟨#[46]⟩ : ByteArray) 0) = some r := by rw [if_neg (show ¬ (false = true) by decide)] at H; exact H
        clear H
        have H := H1
        clear H1
        have H' := Aside0.mk H
        clear H
        go_wp2
        go_loopg [12, 13] kj5 (fun kq v12 v13 w' => ∃ (x12_2 : ByteArray) (x13_2 : Int), v12 = .string x12_2 ∧ v13 = .int .i64 x13_2 ∧ Aside0 (grapevinelaw04_DiffAround.l0 kq l0 l1 a2 a3 t299 x12_2 x13_2 = some r) ∧ Aside0 (kq ≤ kj5) ∧ Aside0 (Below w.heap.size w w'))
        case atStart => exact ⟨((⟨#[46]⟩ : ByteArray)), (0), (by first | rfl | (simp; done) | (simp [*]; done)), (by first | rfl | (simp; done) | (simp [*]; done)), H', ⟨Nat.le_refl _⟩, ⟨by repeat (first | (with_reducible first | exact HB.out | apply below_alloc | apply pw_below_drewN | apply below_drew1) | exact HB.out)⟩⟩
        case round =>
          clear H'
          try clear c1
          try clear p2
          try clear c8
          try clear c8b0
          try clear c8b1
          try clear c9
          try clear p2
          obtain ⟨x12_2, x13_2, rfl, rfl, HA, HK2, HB⟩ := hrel
          cases gk with
          | zero => exact absurd HA.out (by simp [grapevinelaw04_DiffAround.l0])
          | succ k2 =>
            have H := HA.out
            clear HA
            simp only [grapevinelaw04_DiffAround.l0] at H
            by_cases c10 : x13_2 < (l0.length : Int)
            · rw [if_pos c10] at H
              have c10b0 : decide (x13_2 < (l0.length : Int)) = true := decide_eq_true c10
              clear c10
              by_cases c11 : 0 ≤ x13_2
              · rw [if_pos c11] at H
                have c11b0 : decide (0 ≤ x13_2) = true := decide_eq_true c11
                clear c11
                by_cases c12 : x12_2.size + (rdOf ByteArray.empty l0 x13_2).size ≤ 9223372036854775807
                · rw [if_pos c12] at H
                  have c12b0 := eq_true c12
                  have c12b1 : decide (x12_2.size + (rdOf ByteArray.empty l0 x13_2).size ≤ 9223372036854775807) = true := decide_eq_true c12
                  try have c12b2 : (9223372036854775807 < x12_2.size + (rdOf ByteArray.empty l0 x13_2).size) = False := eq_false (Nat.not_lt.2 c12)
                  have H' := Aside0.mk H
                  clear H
                  have p300 : 0 ≤ (x13_2 : Int) := of_decide_eq_true (by first | (with_reducible assumption) | assumption)
                  have q300 : x13_2 < (l0.length : Int) := of_decide_eq_true (by first | (with_reducible assumption) | assumption)
                  obtain ⟨ad300, e300, hx300_0⟩ := Kd.at_string HR0.out x13_2 p300 q300
                  cases e300
                  replace hx300_0 := (HB.out.cell (World.block_lt_of_cell? w _ hx300_0)).trans hx300_0
                  replace p300 := eq_true p300
                  replace q300 := eq_true q300
                  go_wp2
                  go_roundg k2
                  case measure => have := HJ5.out; have := HK2.out; omega
                  case rel => exact ⟨(x12_2 ++ (rdOf ByteArray.empty l0 x13_2)), (wrap64 (x13_2 + 1)), (by first | rfl | (simp; done) | (simp [*]; done)), (by first | rfl | (simp; done) | (simp [*]; done)), H', ⟨by have := HJ5.out; have := HK2.out; omega⟩, ⟨by repeat (first | (with_reducible first | exact HB.out | apply below_alloc | apply pw_below_drewN | apply below_drew1) | exact HB.out)⟩⟩
                · rw [if_neg c12] at H
                  exact absurd H (by simp)
              · rw [if_neg c11] at H
                exact absurd H (by simp)
            · rw [if_neg c10] at H
              have c10b0 : decide (x13_2 < (l0.length : Int)) = false := decide_eq_false c10
              clear c10
              have H' := Aside0.mk H
              clear H
              go_wp2
              go_loopg [12, 14] k2 (fun kq v12 v14 w' => ∃ (x12_3 : ByteArray) (x14_3 : Int), v12 = .string x12_3 ∧ v14 = .int .i64 x14_3 ∧ Aside0 (grapevinelaw04_DiffAround.l1 kq l0 l1 a2 a3 t299 x12_3 x14_3 = some r) ∧ Aside0 (kq ≤ k2) ∧ Aside0 (Below w.heap.size w w'))
              case atStart => exact ⟨(x12_2), (0), (by first | rfl | (simp; done) | (simp [*]; done)), (by first | rfl | (simp; done) | (simp [*]; done)), H', ⟨Nat.le_refl _⟩, ⟨by repeat (first | (with_reducible first | exact HB.out | apply below_alloc | apply pw_below_drewN | apply below_drew1) | exact HB.out)⟩⟩
              case round =>
                clear H'
                try clear c1
                try clear p2
                try clear p3
                try clear q3
                try clear hx3
                try clear p6
                try clear c8
                try clear c8b0
                try clear c8b1
                try clear c9
                try clear c10
                try clear c10b0
                try clear c11
                try clear c11b0
                try clear c12
                try clear c12b0
                try clear c12b1
                try clear c12b2
                try clear hx300_0
                try clear p2
                try clear p300
                try clear q300
                obtain ⟨x12_3, x14_3, rfl, rfl, HA, HK3, HB⟩ := hrel
                cases gk with
                | zero => exact absurd HA.out (by simp [grapevinelaw04_DiffAround.l1])
                | succ k3 =>
                  have H := HA.out
                  clear HA
                  simp only [grapevinelaw04_DiffAround.l1] at H
                  by_cases c13 : x14_3 < (l1.length : Int)
                  · rw [if_pos c13] at H
                    have c13b0 : decide (x14_3 < (l1.length : Int)) = true := decide_eq_true c13
                    clear c13
                    by_cases c14 : 0 ≤ x14_3
                    · rw [if_pos c14] at H
                      have c14b0 : decide (0 ≤ x14_3) = true := decide_eq_true c14
                      clear c14
                      by_cases c15 : x12_3.size + (rdOf ByteArray.empty l1 x14_3).size ≤ 9223372036854775807
                      · rw [if_pos c15] at H
                        have c15b0 := eq_true c15
                        have c15b1 : decide (x12_3.size + (rdOf ByteArray.empty l1 x14_3).size ≤ 9223372036854775807) = true := decide_eq_true c15
                        try have c15b2 : (9223372036854775807 < x12_3.size + (rdOf ByteArray.empty l1 x14_3).size) = False := eq_false (Nat.not_lt.2 c15)
                        have H' := Aside0.mk H
                        clear H
                        have p301 : 0 ≤ (x14_3 : Int) := of_decide_eq_true (by first | (with_reducible assumption) | assumption)
                        have q301 : x14_3 < (l1.length : Int) := of_decide_eq_true (by first | (with_reducible assumption) | assumption)
                        obtain ⟨ad301, e301, hx301_0⟩ := Kd.at_string HR1.out x14_3 p301 q301
                        cases e301
                        replace hx301_0 := (HB.out.cell (World.block_lt_of_cell? w _ hx301_0)).trans hx301_0
                        replace p301 := eq_true p301
                        replace q301 := eq_true q301
                        go_wp2
                        go_roundg k3
                        case measure => have := HJ5.out; have := HK2.out; have := HK3.out; omega
                        case rel => exact ⟨(x12_3 ++ (rdOf ByteArray.empty l1 x14_3)), (wrap64 (x14_3 + 1)), (by first | rfl | (simp; done) | (simp [*]; done)), (by first | rfl | (simp; done) | (simp [*]; done)), H', ⟨by have := HJ5.out; have := HK2.out; have := HK3.out; omega⟩, ⟨by repeat (first | (with_reducible first | exact HB.out | apply below_alloc | apply pw_below_drewN | apply below_drew1) | exact HB.out)⟩⟩
                      · rw [if_neg c15] at H
                        exact absurd H (by simp)
                    · rw [if_neg c14] at H
                      exact absurd H (by simp)
                  · rw [if_neg c13] at H
                    have c13b0 : decide (x14_3 < (l1.length : Int)) = false := decide_eq_false c13
                    clear c13
                    have H' := Aside0.mk H
                    clear H
                    go_wp2
                    go_loopg [10, 15] k3 (fun kq v10 v15 w' => ∃ (x10_4 : List ByteArray) (x15_4 : Int), v15 = .int .i64 x15_4 ∧ Aside0 (grapevinelaw04_DiffAround.l2 kq l0 l1 a2 a3 t299 x10_4 x12_3 x15_4 = some r) ∧ Aside0 (kq ≤ k3) ∧ Aside0 (Kd.R Kd.string 9 w' w.heap.size (fun _ => True) v10 x10_4) ∧ Aside0 (Below w.heap.size w w'))
                    case atStart => exact ⟨(([] : List ByteArray)), (0), (by first | rfl | (simp; done) | (simp [*]; done)), H', ⟨Nat.le_refl _⟩, ⟨by first | exact Kd.R_nil _ _ _ _ _ | exact Kd.N_nil _ _ _ _ _ | exact Kd.V_nil _ _ _ _ _ | exact Kd.Q_nil _ _ _ _ _ | exact Kd.S_nil _ _ _ _ _⟩, ⟨by repeat (first | (with_reducible first | exact HB.out | apply below_alloc | apply pw_below_drewN | apply below_drew1) | exact HB.out)⟩⟩
                    case round =>
                      clear H'
                      try clear c1
                      try clear p2
                      try clear p3
                      try clear q3
                      try clear hx3
                      try clear p6
                      try clear c8
                      try clear c8b0
                      try clear c8b1
                      try clear c9
                      try clear c10
                      try clear c10b0
                      try clear c11
                      try clear c11b0
                      try clear c12
                      try clear c12b0
                      try clear c12b1
                      try clear c12b2
                      try clear c13
                      try clear c13b0
                      try clear c14
                      try clear c14b0
                      try clear c15
                      try clear c15b0
                      try clear c15b1
                      try clear c15b2
                      try clear hx300_0
                      try clear hx301_0
                      try clear p2
                      try clear p3
                      try clear p300
                      try clear p301
                      try clear p6
                      try clear q3
                      try clear q300
                      try clear q301
                      obtain ⟨x10_4, x15_4, rfl, HA, HK4, HO_10, HB⟩ := hrel
                      cases gk with
                      | zero => exact absurd HA.out (by simp [grapevinelaw04_DiffAround.l2])
                      | succ k4 =>
                        have H := HA.out
                        clear HA
                        simp only [grapevinelaw04_DiffAround.l2] at H
                        by_cases c16 : x15_4 < (wrap64 (Int.tmod a2 9))
                        · rw [if_pos c16] at H
                          have c16b0 : decide (x15_4 < (wrap64 (Int.tmod a2 9))) = true := decide_eq_true c16
                          clear c16
                          by_cases c17 : x10_4.length < 8796093022208
                          · rw [if_pos c17] at H
                            have LMc17 := Aside0.mk c17
                            clear c17
                            obtain ⟨y302, hy302⟩ : ∃ y_ : List ByteArray, y_ = (x10_4 ++ [x12_3]) := ⟨_, rfl⟩
                            replace H : (grapevinelaw04_DiffAround.l2 k4 l0 l1 a2 a3 t299 y302 x12_3 (wrap64 (x15_4 + 1))) = some r := by first | (rw [hy302]; with_reducible exact H) | (have H2_ := (Option.bind_some _ _).symm.trans H; rw [hy302]; with_reducible exact H2_) | (have H2_ := (Option.bind_some _ _).symm.trans H; with_reducible exact H2_) | with_reducible exact H | (rw [hy302]; exact H) | exact H
                            have Ny302 := Aside0.mk hy302
                            clear hy302
                            have H' := Aside0.mk H
                            clear H
                            go_wp2_with (first | ((with_reducible refine gate_builtin (b := .append) (xs := #[.tmp 61, .tmp 63]) rfl ?_); (try (refine gate_guard (by rfl) ?_; dsimp only)); at_builtin; refine Kd.R_append Kd.string (w0 := w) w.heap.size rfl (.tmp 61) (.tmp 63) 22 9 (.string ⟨#[]⟩) 16 rfl Try.underlying22 info9 rfl (by decide) (by omega) u10 x10_4 x12_3 [.string x12_3] (fun _ => True) (fun _ => False) rfl rfl ?aP (fun _ hk => hk.elim) ?aF ?aO ?aB ?aS ?aL ?_; (case aP => exact rfl); (case aB => exact (by repeat (first | (with_reducible first | exact HB.out | apply below_alloc | apply pw_below_drewN | apply below_drew1) | exact HB.out))); (case aF => exact (fun _ _ => trivial)); (case aO => exact (by (with_reducible repeat (first | apply Kd.R_alloc | apply Kd.R_drewN | apply Kd.R_drew)); exact HO_10.out)); (case aS => exact (below_size (by repeat (first | (with_reducible first | exact HB.out | apply below_alloc | apply pw_below_drewN | apply below_drew1) | exact HB.out)))); (case aL => have := LMc17.out; omega); intro v303 w18 ho hb hg hat; rw [← Ny302.out] at ho; have n0_ := Aside0.mk (hb); have n1_ := Aside0.mk (ho); clear HB; clear HO_10; have HB := n0_; have HO304 := n1_; clear n0_ n1_; clear ho hb hg hat))
                            go_roundg k4
                            case measure => have := HJ5.out; have := HK2.out; have := HK3.out; have := HK4.out; omega
                            case rel => exact ⟨(y302), (wrap64 (x15_4 + 1)), (by first | rfl | (simp; done) | (simp [*]; done)), H', ⟨by have := HJ5.out; have := HK2.out; have := HK3.out; have := HK4.out; omega⟩, ⟨by (with_reducible repeat (first | apply Kd.R_alloc | apply Kd.R_drewN | apply Kd.R_drew)); exact HO304.out⟩, ⟨by repeat (first | (with_reducible first | exact HB.out | apply below_alloc | apply pw_below_drewN | apply below_drew1) | exact HB.out)⟩⟩
                          · rw [if_neg c17] at H
                            exact absurd H (by simp)
                        · rw [if_neg c16] at H
                          have c16b0 : decide (x15_4 < (wrap64 (Int.tmod a2 9))) = false := decide_eq_false c16
                          clear c16
                          have H' := Aside0.mk H
                          clear H
                          go_wp2
                          go_loopg [11, 16] k4 (fun kq v11 v16 w' => ∃ (x11_5 : List ByteArray) (x16_5 : Int), v16 = .int .i64 x16_5 ∧ Aside0 (grapevinelaw04_DiffAround.l3 kq l0 l1 a3 t299 x10_4 x11_5 x12_3 x16_5 = some r) ∧ Aside0 (kq ≤ k4) ∧ Aside0 (Kd.R Kd.string 9 w' w.heap.size (fun k_ => some k_ ≠ (v11 : Value).ownBlock) u10 x10_4) ∧ Aside0 (Kd.R Kd.string 9 w' w.heap.size (fun k_ => some k_ ≠ (u10 : Value).ownBlock) v11 x11_5) ∧ Aside0 (Below w.heap.size w w'))
                          case atStart => exact ⟨(([] : List ByteArray)), (0), (by first | rfl | (simp; done) | (simp [*]; done)), H', ⟨Nat.le_refl _⟩, ⟨by (with_reducible repeat (first | apply Kd.R_alloc | apply Kd.R_drewN | apply Kd.R_drew)); exact Kd.R_mono HO_10.out (fun _ hk => (by simp [Value.ownBlock]))⟩, ⟨by first | exact Kd.R_nil _ _ _ _ _ | exact Kd.N_nil _ _ _ _ _ | exact Kd.V_nil _ _ _ _ _ | exact Kd.Q_nil _ _ _ _ _ | exact Kd.S_nil _ _ _ _ _⟩, ⟨by repeat (first | (with_reducible first | exact HB.out | apply below_alloc | apply pw_below_drewN | apply below_drew1) | exact HB.out)⟩⟩
                          case round =>
                            clear H'
                            try clear c1
                            try clear p2
                            try clear p3
                            try clear q3
                            try clear hx3
                            try clear p6
                            try clear c8
                            try clear c8b0
                            try clear c8b1
                            try clear c9
                            try clear c10
                            try clear c10b0
                            try clear c11
                            try clear c11b0
                            try clear c12
                            try clear c12b0
                            try clear c12b1
                            try clear c12b2
                            try clear c13
                            try clear c13b0
                            try clear c14
                            try clear c14b0
                            try clear c15
                            try clear c15b0
                            try clear c15b1
                            try clear c15b2
                            try clear c16
                            try clear c16b0
                            try clear c17
                            try clear hx300_0
                            try clear hx301_0
                            try clear p2
                            try clear p3
                            try clear p300
                            try clear p301
                            try clear p6
                            try clear q3
                            try clear q300
                            try clear q301
                            obtain ⟨x11_5, x16_5, rfl, HA, HK5, HO_10, HO_11, HB⟩ := hrel
                            cases gk with
                            | zero => exact absurd HA.out (by simp [grapevinelaw04_DiffAround.l3])
                            | succ k5 =>
                              have H := HA.out
                              clear HA
                              simp only [grapevinelaw04_DiffAround.l3] at H
                              by_cases c19 : x16_5 < (wrap64 (Int.tmod a3 9))
                              · rw [if_pos c19] at H
                                have c19b0 : decide (x16_5 < (wrap64 (Int.tmod a3 9))) = true := decide_eq_true c19
                                clear c19
                                by_cases c20 : x11_5.length < 8796093022208
                                · rw [if_pos c20] at H
                                  have LMc20 := Aside0.mk c20
                                  clear c20
                                  obtain ⟨y305, hy305⟩ : ∃ y_ : List ByteArray, y_ = (x11_5 ++ [x12_3]) := ⟨_, rfl⟩
                                  replace H : (grapevinelaw04_DiffAround.l3 k5 l0 l1 a3 t299 x10_4 y305 x12_3 (wrap64 (x16_5 + 1))) = some r := by first | (rw [hy305]; with_reducible exact H) | (have H2_ := (Option.bind_some _ _).symm.trans H; rw [hy305]; with_reducible exact H2_) | (have H2_ := (Option.bind_some _ _).symm.trans H; with_reducible exact H2_) | with_reducible exact H | (rw [hy305]; exact H) | exact H
                                  have Ny305 := Aside0.mk hy305
                                  clear hy305
                                  have H' := Aside0.mk H
                                  clear H
                                  go_wp2_with (first | ((with_reducible refine gate_builtin (b := .append) (xs := #[.tmp 72, .tmp 74]) rfl ?_); (try (refine gate_guard (by rfl) ?_; dsimp only)); at_builtin; refine Kd.R_append Kd.string (w0 := w) w.heap.size rfl (.tmp 72) (.tmp 74) 22 9 (.string ⟨#[]⟩) 16 rfl Try.underlying22 info9 rfl (by decide) (by omega) u11 x11_5 x12_3 [.string x12_3] (fun k_ => some k_ ≠ (u10 : Value).ownBlock) (fun _ => False) rfl rfl ?aP (fun _ hk => hk.elim) ?aF ?aO ?aB ?aS ?aL ?_; (case aP => exact rfl); (case aB => exact (by repeat (first | (with_reducible first | exact HB.out | apply below_alloc | apply pw_below_drewN | apply below_drew1) | exact HB.out))); (case aF => exact (fun k_ hk => Kd.fresh' (Kd.R_lt (by (with_reducible repeat (first | apply Kd.R_alloc | apply Kd.R_drewN | apply Kd.R_drew)); exact HO_10.out)) k_ hk)); (case aO => exact (by (with_reducible repeat (first | apply Kd.R_alloc | apply Kd.R_drewN | apply Kd.R_drew)); exact HO_11.out)); (case aS => exact (below_size (by repeat (first | (with_reducible first | exact HB.out | apply below_alloc | apply pw_below_drewN | apply below_drew1) | exact HB.out)))); (case aL => have := LMc20.out; omega); intro v306 w21 ho hb hg hat; rw [← Ny305.out] at ho; have n0_ := Aside0.mk (Kd.R_after (ok := (fun _ => True)) (by (with_reducible repeat (first | apply Kd.R_alloc | apply Kd.R_drewN | apply Kd.R_drew)); exact Kd.R_mono HO_10.out (fun _ hk => ⟨trivial, hk⟩)) hg hat); have n1_ := Aside0.mk (hb); have n2_ := Aside0.mk (ho); clear HO_10; clear HB; clear HO_11; have HO_10 := n0_; have HB := n1_; have HO307 := n2_; clear n0_ n1_ n2_; clear ho hb hg hat))
                                  go_roundg k5
                                  case measure => have := HJ5.out; have := HK2.out; have := HK3.out; have := HK4.out; have := HK5.out; omega
                                  case rel => exact ⟨(y305), (wrap64 (x16_5 + 1)), (by first | rfl | (simp; done) | (simp [*]; done)), H', ⟨by have := HJ5.out; have := HK2.out; have := HK3.out; have := HK4.out; have := HK5.out; omega⟩, ⟨by (with_reducible repeat (first | apply Kd.R_alloc | apply Kd.R_drewN | apply Kd.R_drew)); exact Kd.R_mono HO_10.out (fun _ hk => hk.2)⟩, ⟨by (with_reducible repeat (first | apply Kd.R_alloc | apply Kd.R_drewN | apply Kd.R_drew)); exact HO307.out⟩, ⟨by repeat (first | (with_reducible first | exact HB.out | apply below_alloc | apply pw_below_drewN | apply below_drew1) | exact HB.out)⟩⟩
                                · rw [if_neg c20] at H
                                  exact absurd H (by simp)
                              · rw [if_neg c19] at H
                                have c19b0 : decide (x16_5 < (wrap64 (Int.tmod a3 9))) = false := decide_eq_false c19
                                clear c19
                                replace H := Option.bind_eq_some_iff.mp H
                                obtain ⟨t308, A220, H⟩ := H
                                replace H : ((some (([] : List ByteArray) : List ByteArray)).bind fun y311 => (if y311.length + x10_4.length < 8796093022208 then ((some (y311 ++ x10_4 : List ByteArray)).bind fun y314 => (if y314.length + l0.length < 8796093022208 then ((some (y314 ++ l0 : List ByteArray)).bind fun y317 => (if y317.length + x11_5.length < 8796093022208 then ((some (([] : List ByteArray) : List ByteArray)).bind fun y323 => (if y323.length + x10_4.length < 8796093022208 then ((some (y323 ++ x10_4 : List ByteArray)).bind fun y326 => (if y326.length + l1.length < 8796093022208 then ((some (y326 ++ l1 : List ByteArray)).bind fun y329 => (if y329.length + x11_5.length < 8796093022208 then ((diff_Diff.f (y317 ++ x11_5) (y329 ++ x11_5)).bind fun t335 => (if (t308.length : Int) = (t335.length : Int) then (grapevinelaw04_DiffAround.l4 k5 t299 x10_4 t308 t335 0) else (some false))) else (none))) else (none))) else (none))) else (none))) else (none))) else (none))) = some r := H
                                have A22 := Aside0.mk A220
                                clear A220
                                obtain ⟨y311, hy311⟩ : ∃ y_ : List ByteArray, y_ = (([] : List ByteArray)) := ⟨_, rfl⟩
                                replace H : (if y311.length + x10_4.length < 8796093022208 then ((some (y311 ++ x10_4 : List ByteArray)).bind fun y314 => (if y314.length + l0.length < 8796093022208 then ((some (y314 ++ l0 : List ByteArray)).bind fun y317 => (if y317.length + x11_5.length < 8796093022208 then ((some (([] : List ByteArray) : List ByteArray)).bind fun y323 => (if y323.length + x10_4.length < 8796093022208 then ((some (y323 ++ x10_4 : List ByteArray)).bind fun y326 => (if y326.length + l1.length < 8796093022208 then ((some (y326 ++ l1 : List ByteArray)).bind fun y329 => (if y329.length + x11_5.length < 8796093022208 then ((diff_Diff.f (y317 ++ x11_5) (y329 ++ x11_5)).bind fun t335 => (if (t308.length : Int) = (t335.length : Int) then (grapevinelaw04_DiffAround.l4 k5 t299 x10_4 t308 t335 0) else (some false))) else (none))) else (none))) else (none))) else (none))) else (none))) else (none)) = some r := by first | (rw [hy311]; with_reducible exact H) | (have H2_ := (Option.bind_some _ _).symm.trans H; rw [hy311]; with_reducible exact H2_) | (have H2_ := (Option.bind_some _ _).symm.trans H; with_reducible exact H2_) | with_reducible exact H | (rw [hy311]; exact H) | exact H
                                have Ny311 := Aside0.mk hy311
                                clear hy311
                                by_cases c23 : y311.length + x10_4.length < 8796093022208
                                · rw [if_pos c23] at H
                                  have LMc23 := Aside0.mk c23
                                  clear c23
                                  obtain ⟨y314, hy314⟩ : ∃ y_ : List ByteArray, y_ = (y311 ++ x10_4) := ⟨_, rfl⟩
                                  replace H : (if y314.length + l0.length < 8796093022208 then ((some (y314 ++ l0 : List ByteArray)).bind fun y317 => (if y317.length + x11_5.length < 8796093022208 then ((some (([] : List ByteArray) : List ByteArray)).bind fun y323 => (if y323.length + x10_4.length < 8796093022208 then ((some (y323 ++ x10_4 : List ByteArray)).bind fun y326 => (if y326.length + l1.length < 8796093022208 then ((some (y326 ++ l1 : List ByteArray)).bind fun y329 => (if y329.length + x11_5.length < 8796093022208 then ((diff_Diff.f (y317 ++ x11_5) (y329 ++ x11_5)).bind fun t335 => (if (t308.length : Int) = (t335.length : Int) then (grapevinelaw04_DiffAround.l4 k5 t299 x10_4 t308 t335 0) else (some false))) else (none))) else (none))) else (none))) else (none))) else (none)) = some r := by first | (rw [hy314]; with_reducible exact H) | (have H2_ := (Option.bind_some _ _).symm.trans H; rw [hy314]; with_reducible exact H2_) | (have H2_ := (Option.bind_some _ _).symm.trans H; with_reducible exact H2_) | with_reducible exact H | (rw [hy314]; exact H) | exact H
                                  have Ny314 := Aside0.mk hy314
                                  clear hy314
                                  by_cases c24 : y314.length + l0.length < 8796093022208
                                  · rw [if_pos c24] at H
                                    have LMc24 := Aside0.mk c24
                                    clear c24
                                    obtain ⟨y317, hy317⟩ : ∃ y_ : List ByteArray, y_ = (y314 ++ l0) := ⟨_, rfl⟩
                                    replace H : (if y317.length + x11_5.length < 8796093022208 then ((some (([] : List ByteArray) : List ByteArray)).bind fun y323 => (if y323.length + x10_4.length < 8796093022208 then ((some (y323 ++ x10_4 : List ByteArray)).bind fun y326 => (if y326.length + l1.length < 8796093022208 then ((some (y326 ++ l1 : List ByteArray)).bind fun y329 => (if y329.length + x11_5.length < 8796093022208 then ((diff_Diff.f (y317 ++ x11_5) (y329 ++ x11_5)).bind fun t335 => (if (t308.length : Int) = (t335.length : Int) then (grapevinelaw04_DiffAround.l4 k5 t299 x10_4 t308 t335 0) else (some false))) else (none))) else (none))) else (none))) else (none)) = some r := by first | (rw [hy317]; with_reducible exact H) | (have H2_ := (Option.bind_some _ _).symm.trans H; rw [hy317]; with_reducible exact H2_) | (have H2_ := (Option.bind_some _ _).symm.trans H; with_reducible exact H2_) | with_reducible exact H | (rw [hy317]; exact H) | exact H
                                    have Ny317 := Aside0.mk hy317
                                    clear hy317
                                    by_cases c25 : y317.length + x11_5.length < 8796093022208
                                    · rw [if_pos c25] at H
                                      have LMc25 := Aside0.mk c25
                                      clear c25
                                      obtain ⟨y320, hy320⟩ : ∃ y_ : List ByteArray, y_ = (y317 ++ x11_5) := ⟨_, rfl⟩
                                      replace H : ((some (([] : List ByteArray) : List ByteArray)).bind fun y323 => (if y323.length + x10_4.length < 8796093022208 then ((some (y323 ++ x10_4 : List ByteArray)).bind fun y326 => (if y326.length + l1.length < 8796093022208 then ((some (y326 ++ l1 : List ByteArray)).bind fun y329 => (if y329.length + x11_5.length < 8796093022208 then ((diff_Diff.f y320 (y329 ++ x11_5)).bind fun t335 => (if (t308.length : Int) = (t335.length : Int) then (grapevinelaw04_DiffAround.l4 k5 t299 x10_4 t308 t335 0) else (some false))) else (none))) else (none))) else (none))) = some r := by first | (rw [hy320]; with_reducible exact H) | (have H2_ := (Option.bind_some _ _).symm.trans H; rw [hy320]; with_reducible exact H2_) | (have H2_ := (Option.bind_some _ _).symm.trans H; with_reducible exact H2_) | with_reducible exact H | (rw [hy320]; exact H) | exact H
                                      have Ny320 := Aside0.mk hy320
                                      clear hy320
                                      obtain ⟨y323, hy323⟩ : ∃ y_ : List ByteArray, y_ = (([] : List ByteArray)) := ⟨_, rfl⟩
                                      replace H : (if y323.length + x10_4.length < 8796093022208 then ((some (y323 ++ x10_4 : List ByteArray)).bind fun y326 => (if y326.length + l1.length < 8796093022208 then ((some (y326 ++ l1 : List ByteArray)).bind fun y329 => (if y329.length + x11_5.length < 8796093022208 then ((diff_Diff.f y320 (y329 ++ x11_5)).bind fun t335 => (if (t308.length : Int) = (t335.length : Int) then (grapevinelaw04_DiffAround.l4 k5 t299 x10_4 t308 t335 0) else (some false))) else (none))) else (none))) else (none)) = some r := by first | (rw [hy323]; with_reducible exact H) | (have H2_ := (Option.bind_some _ _).symm.trans H; rw [hy323]; with_reducible exact H2_) | (have H2_ := (Option.bind_some _ _).symm.trans H; with_reducible exact H2_) | with_reducible exact H | (rw [hy323]; exact H) | exact H
                                      have Ny323 := Aside0.mk hy323
                                      clear hy323
                                      by_cases c26 : y323.length + x10_4.length < 8796093022208
                                      · rw [if_pos c26] at H
                                        have LMc26 := Aside0.mk c26
                                        clear c26
                                        obtain ⟨y326, hy326⟩ : ∃ y_ : List ByteArray, y_ = (y323 ++ x10_4) := ⟨_, rfl⟩
                                        replace H : (if y326.length + l1.length < 8796093022208 then ((some (y326 ++ l1 : List ByteArray)).bind fun y329 => (if y329.length + x11_5.length < 8796093022208 then ((diff_Diff.f y320 (y329 ++ x11_5)).bind fun t335 => (if (t308.length : Int) = (t335.length : Int) then (grapevinelaw04_DiffAround.l4 k5 t299 x10_4 t308 t335 0) else (some false))) else (none))) else (none)) = some r := by first | (rw [hy326]; with_reducible exact H) | (have H2_ := (Option.bind_some _ _).symm.trans H; rw [hy326]; with_reducible exact H2_) | (have H2_ := (Option.bind_some _ _).symm.trans H; with_reducible exact H2_) | with_reducible exact H | (rw [hy326]; exact H) | exact H
                                        have Ny326 := Aside0.mk hy326
                                        clear hy326
                                        by_cases c27 : y326.length + l1.length < 8796093022208
                                        · rw [if_pos c27] at H
                                          have LMc27 := Aside0.mk c27
                                          clear c27
                                          obtain ⟨y329, hy329⟩ : ∃ y_ : List ByteArray, y_ = (y326 ++ l1) := ⟨_, rfl⟩
                                          replace H : (if y329.length + x11_5.length < 8796093022208 then ((diff_Diff.f y320 (y329 ++ x11_5)).bind fun t335 => (if (t308.length : Int) = (t335.length : Int) then (grapevinelaw04_DiffAround.l4 k5 t299 x10_4 t308 t335 0) else (some false))) else (none)) = some r := by first | (rw [hy329]; with_reducible exact H) | (have H2_ := (Option.bind_some _ _).symm.trans H; rw [hy329]; with_reducible exact H2_) | (have H2_ := (Option.bind_some _ _).symm.trans H; with_reducible exact H2_) | with_reducible exact H | (rw [hy329]; exact H) | exact H
                                          have Ny329 := Aside0.mk hy329
                                          clear hy329
                                          by_cases c28 : y329.length + x11_5.length < 8796093022208
                                          · rw [if_pos c28] at H
                                            have LMc28 := Aside0.mk c28
                                            clear c28
                                            obtain ⟨y332, hy332⟩ : ∃ y_ : List ByteArray, y_ = (y329 ++ x11_5) := ⟨_, rfl⟩
                                            replace H : ((diff_Diff.f y320 y332).bind fun t335 => (if (t308.length : Int) = (t335.length : Int) then (grapevinelaw04_DiffAround.l4 k5 t299 x10_4 t308 t335 0) else (some false))) = some r := by first | (rw [hy332]; with_reducible exact H) | (have H2_ := (Option.bind_some _ _).symm.trans H; rw [hy332]; with_reducible exact H2_) | (have H2_ := (Option.bind_some _ _).symm.trans H; with_reducible exact H2_) | with_reducible exact H | (rw [hy332]; exact H) | exact H
                                            have Ny332 := Aside0.mk hy332
                                            clear hy332
                                            replace H := Option.bind_eq_some_iff.mp H
                                            obtain ⟨t335, A290, H⟩ := H
                                            replace H : (if (t308.length : Int) = (t335.length : Int) then (grapevinelaw04_DiffAround.l4 k5 t299 x10_4 t308 t335 0) else (some false)) = some r := H
                                            have A29 := Aside0.mk A290
                                            clear A290
                                            by_cases c30 : (t308.length : Int) = (t335.length : Int)
                                            · rw [if_pos c30] at H
                                              have c30b0 : ((t308.length : Int) == (t335.length : Int)) = true := beq_iff_eq.mpr c30
                                              have c30b1 : ((t308.length : Int) != (t335.length : Int)) = false := bne_eq_false_iff_eq.mpr c30
                                              have c30b2 : (t308.length == t335.length) = true := by first | simpa using c30 | (simp at c30 ⊢; omega)
                                              clear c30
                                              have H' := Aside0.mk H
                                              clear H
                                              go_wp2_with (first | ((with_reducible refine gate_callee (f := 15) rfl ?_); refine goesL_ (some 78) rfl rfl Try.func15 (by kernel_rfl) rfl #[.slice A0 l0.length c0, .slice A1 l1.length c1] rfl (by (try simp only [List.map_toArray, List.map_cons, List.map_nil]); first | done | rfl | (simp only [List.length_drop, List.length_take]; rfl)) ?_; (with_reducible refine (diff_Diff.calls _ _ l0 _ _ l1 t308 _ ?side1 ?side2 ?side3 ?side4 A22.out).mono ?_); (case side1 => repeat (first | exact (Kd.C_below HR0.out HB.out) | (with_reducible refine Kd.C_alloc ?_ _) | (with_reducible refine Kd.C_drewN ?_ _) | (with_reducible refine Kd.C_drew ?_))); (case side2 => exact HC0.out); (case side3 => repeat (first | exact (Kd.C_below HR1.out HB.out) | (with_reducible refine Kd.C_alloc ?_ _) | (with_reducible refine Kd.C_drewN ?_ _) | (with_reducible refine Kd.C_drew ?_))); (case side4 => exact HC1.out); rintro e w31 ⟨v309, rfl, ho0, hb⟩; refine ⟨_, rfl, ?_⟩; have n0_ := Aside0.mk (Kd.R_below (by (with_reducible repeat (first | apply Kd.R_alloc | apply Kd.R_drewN | apply Kd.R_drew)); exact HO_10.out) hb); have n1_ := Aside0.mk (Kd.R_below (by (with_reducible repeat (first | apply Kd.R_alloc | apply Kd.R_drewN | apply Kd.R_drew)); exact HO_11.out) hb); have n2_ := Aside0.mk (Kd.S_lower (Kd.S_new' (Kd.S_new' ho0 (Kd.R_lt (by (with_reducible repeat (first | apply Kd.R_alloc | apply Kd.R_drewN | apply Kd.R_drew)); exact HO_10.out))) (Kd.R_lt (by (with_reducible repeat (first | apply Kd.R_alloc | apply Kd.R_drewN | apply Kd.R_drew)); exact HO_11.out))) (below_size (by repeat (first | (with_reducible first | exact HB.out | apply below_alloc | apply pw_below_drewN | apply below_drew1) | exact HB.out)))); have n3_ := Aside0.mk (below_step (by repeat (first | (with_reducible first | exact HB.out | apply below_alloc | apply pw_below_drewN | apply below_drew1) | exact HB.out)) hb); clear HO_10; clear HO_11; clear HB; have HO_10 := n0_; have HO_11 := n1_; have HO310 := n2_; have HB := n3_; clear n0_ n1_ n2_ n3_; (try clear hb); (try clear hb2); (try clear hk); (try clear hi); (try clear ho0)) | ((with_reducible refine gate_dst (N := 79) rfl ?_); (try (refine gate_guard (by rfl) ?_; dsimp only)); refine Kd.R_lit Kd.string _ 9 ?hg (N := 79) ?hd (xs := ([] : List ByteArray)) (inner := []) (ok := fun _ => True) (okp := fun _ => True) ?hr ?hp (fun _ hk => hk) trivial (Below.refl _ _) (Nat.le_refl _) (by simp) ?_; (case hd => rfl); (case hg => rfl); (case hr => first | (go_simp; done) | (go_simp; rfl)); (case hp => exact (Reps.none _ _)); intro v312 w32 ho33 hb hg_ hnew_; clear hg_ hnew_; (first | rw [← Ny311.out] at ho33 | (simp only [Int.reduceToNat] at ho33; rw [← Ny311.out] at ho33)); have n0_ := Aside0.mk (Kd.R_elder' (by (with_reducible repeat (first | apply Kd.R_alloc | apply Kd.R_drewN | apply Kd.R_drew)); exact HO_10.out) (Kd.R_base ho33) hb); have n1_ := Aside0.mk (Kd.R_elder' (by (with_reducible repeat (first | apply Kd.R_alloc | apply Kd.R_drewN | apply Kd.R_drew)); exact HO_11.out) (Kd.R_base ho33) hb); have n2_ := Aside0.mk (Kd.S_elder' (by (with_reducible repeat (first | apply Kd.S_alloc | apply Kd.S_drewN | apply Kd.S_drew)); exact HO310.out) (Kd.R_base ho33) hb); have n3_ := Aside0.mk (Kd.R_lower (Kd.R_new' (Kd.R_new' ho33 (Kd.R_lt (by (with_reducible repeat (first | apply Kd.R_alloc | apply Kd.R_drewN | apply Kd.R_drew)); exact HO_10.out))) (Kd.R_lt (by (with_reducible repeat (first | apply Kd.R_alloc | apply Kd.R_drewN | apply Kd.R_drew)); exact HO_11.out))) (below_size (by repeat (first | (with_reducible first | exact HB.out | apply below_alloc | apply pw_below_drewN | apply below_drew1) | exact HB.out)))); have n4_ := Aside0.mk (below_step (by repeat (first | (with_reducible first | exact HB.out | apply below_alloc | apply pw_below_drewN | apply below_drew1) | exact HB.out)) hb); clear HO_10; clear HO_11; clear HO310; clear HB; have HO_10 := n0_; have HO_11 := n1_; have HO310 := n2_; have HO313 := n3_; have HB := n4_; clear n0_ n1_ n2_ n3_ n4_; clear hb ho33; obtain ⟨Ao35, co35, eo35⟩ := Kd.R_slice HO_10.out; subst eo35) | ((with_reducible refine gate_builtin (b := .append) (xs := #[.tmp 79, .tmp 80]) rfl ?_); (try (refine gate_guard (by rfl) ?_; dsimp only)); at_builtin; refine Kd.R_append_rows Kd.string (w0 := w) w.heap.size rfl (.tmp 79) (.tmp 80) 22 9 (.string ⟨#[]⟩) 16 rfl Try.underlying22 info9 rfl (by decide) (by omega) v312 y311 x10_4 _ _ _ (fun k_ => some k_ ≠ (.slice Ao35 x10_4.length co35 : Value).ownBlock ∧ some k_ ≠ (u11 : Value).ownBlock) (fun _ => False) rfl rfl ?aO ?aR (fun _ _ h => h) (fun _ h => h.elim) ?aF ?aB ?aS ?aL ?_; (case aR => repeat (first | exact (Kd.R_reads' HO_10.out).2.2 | (with_reducible refine Kd.C_alloc ?_ _) | (with_reducible refine Kd.C_drewN ?_ _) | (with_reducible refine Kd.C_drew ?_))); (case aB => exact (by repeat (first | (with_reducible first | exact HB.out | apply below_alloc | apply pw_below_drewN | apply below_drew1) | exact HB.out))); (case aF => exact (fun k_ hk => ⟨Kd.fresh' (Kd.R_lt (by (with_reducible repeat (first | apply Kd.R_alloc | apply Kd.R_drewN | apply Kd.R_drew)); exact HO_10.out)) k_ hk, Kd.fresh' (Kd.R_lt (by (with_reducible repeat (first | apply Kd.R_alloc | apply Kd.R_drewN | apply Kd.R_drew)); exact HO_11.out)) k_ hk⟩)); (case aO => exact (by (with_reducible repeat (first | apply Kd.R_alloc | apply Kd.R_drewN | apply Kd.R_drew)); exact Kd.R_mono HO313.out (fun _ hk => ⟨hk.1.2, hk.2⟩))); (case aS => exact (below_size (by repeat (first | (with_reducible first | exact HB.out | apply below_alloc | apply pw_below_drewN | apply below_drew1) | exact HB.out)))); (case aL => have := LMc23.out; omega); intro v315 w34 ho hb hg hat; rw [← Ny314.out] at ho; have n0_ := Aside0.mk (Kd.R_after (ok := (fun k_ => some k_ ≠ (u11 : Value).ownBlock)) (by (with_reducible repeat (first | apply Kd.R_alloc | apply Kd.R_drewN | apply Kd.R_drew)); exact HO_10.out) hg hat); have n1_ := Aside0.mk (Kd.R_after (ok := (fun k_ => some k_ ≠ (.slice Ao35 x10_4.length co35 : Value).ownBlock)) (by (with_reducible repeat (first | apply Kd.R_alloc | apply Kd.R_drewN | apply Kd.R_drew)); exact HO_11.out) hg hat); have n2_ := Aside0.mk (Kd.S_after (ok := (fun k_ => some k_ ≠ (.slice Ao35 x10_4.length co35 : Value).ownBlock ∧ some k_ ≠ (u11 : Value).ownBlock)) (by (with_reducible repeat (first | apply Kd.S_alloc | apply Kd.S_drewN | apply Kd.S_drew)); exact Kd.S_mono HO310.out (fun _ hk => ⟨⟨hk.1.1.2, hk.1.2⟩, hk.2⟩)) hg hat); have n3_ := Aside0.mk (hb); have n4_ := Aside0.mk (ho); clear HO_10; clear HO_11; clear HO310; clear HB; clear HO313; have HO_10 := n0_; have HO_11 := n1_; have HO310 := n2_; have HB := n3_; have HO316 := n4_; clear n0_ n1_ n2_ n3_ n4_; clear ho hb hg hat) | ((with_reducible refine gate_builtin (b := .append) (xs := #[.tmp 81, .tmp 82]) rfl ?_); (try (refine gate_guard (by rfl) ?_; dsimp only)); at_builtin; refine Kd.R_append_rows Kd.string (w0 := w) w.heap.size rfl (.tmp 81) (.tmp 82) 22 9 (.string ⟨#[]⟩) 16 rfl Try.underlying22 info9 rfl (by decide) (by omega) v315 y314 l0 _ _ _ (fun k_ => some k_ ≠ (.slice Ao35 x10_4.length co35 : Value).ownBlock ∧ some k_ ≠ (u11 : Value).ownBlock) (fun _ => False) rfl rfl ?aO ?aR (fun _ _ h => h) (fun _ h => h.elim) ?aF ?aB ?aS ?aL ?_; (case aR => repeat (first | exact (Kd.C_below HR0.out HB.out) | (with_reducible refine Kd.C_alloc ?_ _) | (with_reducible refine Kd.C_drewN ?_ _) | (with_reducible refine Kd.C_drew ?_))); (case aB => exact (by repeat (first | (with_reducible first | exact HB.out | apply below_alloc | apply pw_below_drewN | apply below_drew1) | exact HB.out))); (case aF => exact (fun k_ hk => ⟨Kd.fresh' (Kd.R_lt (by (with_reducible repeat (first | apply Kd.R_alloc | apply Kd.R_drewN | apply Kd.R_drew)); exact HO_10.out)) k_ hk, Kd.fresh' (Kd.R_lt (by (with_reducible repeat (first | apply Kd.R_alloc | apply Kd.R_drewN | apply Kd.R_drew)); exact HO_11.out)) k_ hk⟩)); (case aO => exact (by (with_reducible repeat (first | apply Kd.R_alloc | apply Kd.R_drewN | apply Kd.R_drew)); exact HO316.out)); (case aS => exact (below_size (by repeat (first | (with_reducible first | exact HB.out | apply below_alloc | apply pw_below_drewN | apply below_drew1) | exact HB.out)))); (case aL => have := LMc24.out; omega); intro v318 w36 ho hb hg hat; rw [← Ny317.out] at ho; have n0_ := Aside0.mk (Kd.R_after (ok := (fun k_ => some k_ ≠ (u11 : Value).ownBlock)) (by (with_reducible repeat (first | apply Kd.R_alloc | apply Kd.R_drewN | apply Kd.R_drew)); exact HO_10.out) hg hat); have n1_ := Aside0.mk (Kd.R_after (ok := (fun k_ => some k_ ≠ (.slice Ao35 x10_4.length co35 : Value).ownBlock)) (by (with_reducible repeat (first | apply Kd.R_alloc | apply Kd.R_drewN | apply Kd.R_drew)); exact HO_11.out) hg hat); have n2_ := Aside0.mk (Kd.S_after (ok := (fun k_ => some k_ ≠ (.slice Ao35 x10_4.length co35 : Value).ownBlock ∧ some k_ ≠ (u11 : Value).ownBlock)) (by (with_reducible repeat (first | apply Kd.S_alloc | apply Kd.S_drewN | apply Kd.S_drew)); exact HO310.out) hg hat); have n3_ := Aside0.mk (hb); have n4_ := Aside0.mk (ho); clear HO_10; clear HO_11; clear HO310; clear HB; clear HO316; have HO_10 := n0_; have HO_11 := n1_; have HO310 := n2_; have HB := n3_; have HO319 := n4_; clear n0_ n1_ n2_ n3_ n4_; clear ho hb hg hat; obtain ⟨Ao38, co38, eo38⟩ := Kd.R_slice HO_11.out; subst eo38) | ((with_reducible refine gate_builtin (b := .append) (xs := #[.tmp 83, .tmp 84]) rfl ?_); (try (refine gate_guard (by rfl) ?_; dsimp only)); at_builtin; refine Kd.R_append_rows Kd.string (w0 := w) w.heap.size rfl (.tmp 83) (.tmp 84) 22 9 (.string ⟨#[]⟩) 16 rfl Try.underlying22 info9 rfl (by decide) (by omega) v318 y317 x11_5 _ _ _ (fun k_ => some k_ ≠ (.slice Ao35 x10_4.length co35 : Value).ownBlock ∧ some k_ ≠ (.slice Ao38 x11_5.length co38 : Value).ownBlock) (fun _ => False) rfl rfl ?aO ?aR (fun _ _ h => h) (fun _ h => h.elim) ?aF ?aB ?aS ?aL ?_; (case aR => repeat (first | exact (Kd.R_reads' HO_11.out).2.2 | (with_reducible refine Kd.C_alloc ?_ _) | (with_reducible refine Kd.C_drewN ?_ _) | (with_reducible refine Kd.C_drew ?_))); (case aB => exact (by repeat (first | (with_reducible first | exact HB.out | apply below_alloc | apply pw_below_drewN | apply below_drew1) | exact HB.out))); (case aF => exact (fun k_ hk => ⟨Kd.fresh' (Kd.R_lt (by (with_reducible repeat (first | apply Kd.R_alloc | apply Kd.R_drewN | apply Kd.R_drew)); exact HO_10.out)) k_ hk, Kd.fresh' (Kd.R_lt (by (with_reducible repeat (first | apply Kd.R_alloc | apply Kd.R_drewN | apply Kd.R_drew)); exact HO_11.out)) k_ hk⟩)); (case aO => exact (by (with_reducible repeat (first | apply Kd.R_alloc | apply Kd.R_drewN | apply Kd.R_drew)); exact HO319.out)); (case aS => exact (below_size (by repeat (first | (with_reducible first | exact HB.out | apply below_alloc | apply pw_below_drewN | apply below_drew1) | exact HB.out)))); (case aL => have := LMc25.out; omega); intro v321 w37 ho hb hg hat; rw [← Ny320.out] at ho; have n0_ := Aside0.mk (Kd.R_after (ok := (fun k_ => some k_ ≠ (.slice Ao38 x11_5.length co38 : Value).ownBlock)) (by (with_reducible repeat (first | apply Kd.R_alloc | apply Kd.R_drewN | apply Kd.R_drew)); exact HO_10.out) hg hat); have n1_ := Aside0.mk (Kd.R_after (ok := (fun k_ => some k_ ≠ (.slice Ao35 x10_4.length co35 : Value).ownBlock)) (by (with_reducible repeat (first | apply Kd.R_alloc | apply Kd.R_drewN | apply Kd.R_drew)); exact HO_11.out) hg hat); have n2_ := Aside0.mk (Kd.S_after (ok := (fun k_ => some k_ ≠ (.slice Ao35 x10_4.length co35 : Value).ownBlock ∧ some k_ ≠ (.slice Ao38 x11_5.length co38 : Value).ownBlock)) (by (with_reducible repeat (first | apply Kd.S_alloc | apply Kd.S_drewN | apply Kd.S_drew)); exact HO310.out) hg hat); have n3_ := Aside0.mk (hb); have n4_ := Aside0.mk (ho); clear HO_10; clear HO_11; clear HO310; clear HB; clear HO319; have HO_10 := n0_; have HO_11 := n1_; have HO310 := n2_; have HB := n3_; have HO322 := n4_; clear n0_ n1_ n2_ n3_ n4_; clear ho hb hg hat) | ((with_reducible refine gate_dst (N := 86) rfl ?_); (try (refine gate_guard (by rfl) ?_; dsimp only)); refine Kd.R_lit Kd.string _ 9 ?hg (N := 86) ?hd (xs := ([] : List ByteArray)) (inner := []) (ok := fun _ => True) (okp := fun _ => True) ?hr ?hp (fun _ hk => hk) trivial (Below.refl _ _) (Nat.le_refl _) (by simp) ?_; (case hd => rfl); (case hg => rfl); (case hr => first | (go_simp; done) | (go_simp; rfl)); (case hp => exact (Reps.none _ _)); intro v324 w39 ho40 hb hg_ hnew_; clear hg_ hnew_; (first | rw [← Ny323.out] at ho40 | (simp only [Int.reduceToNat] at ho40; rw [← Ny323.out] at ho40)); have n0_ := Aside0.mk (Kd.R_elder' (by (with_reducible repeat (first | apply Kd.R_alloc | apply Kd.R_drewN | apply Kd.R_drew)); exact HO_10.out) (Kd.R_base ho40) hb); have n1_ := Aside0.mk (Kd.R_elder' (by (with_reducible repeat (first | apply Kd.R_alloc | apply Kd.R_drewN | apply Kd.R_drew)); exact HO_11.out) (Kd.R_base ho40) hb); have n2_ := Aside0.mk (Kd.S_elder' (by (with_reducible repeat (first | apply Kd.S_alloc | apply Kd.S_drewN | apply Kd.S_drew)); exact HO310.out) (Kd.R_base ho40) hb); have n3_ := Aside0.mk (Kd.R_elder' (by (with_reducible repeat (first | apply Kd.R_alloc | apply Kd.R_drewN | apply Kd.R_drew)); exact HO322.out) (Kd.R_base ho40) hb); have n4_ := Aside0.mk (Kd.R_lower (Kd.R_new' (Kd.R_new' (Kd.R_new' ho40 (Kd.R_lt (by (with_reducible repeat (first | apply Kd.R_alloc | apply Kd.R_drewN | apply Kd.R_drew)); exact HO_10.out))) (Kd.R_lt (by (with_reducible repeat (first | apply Kd.R_alloc | apply Kd.R_drewN | apply Kd.R_drew)); exact HO_11.out))) (Kd.R_lt (by (with_reducible repeat (first | apply Kd.R_alloc | apply Kd.R_drewN | apply Kd.R_drew)); exact HO322.out))) (below_size (by repeat (first | (with_reducible first | exact HB.out | apply below_alloc | apply pw_below_drewN | apply below_drew1) | exact HB.out)))); have n5_ := Aside0.mk (below_step (by repeat (first | (with_reducible first | exact HB.out | apply below_alloc | apply pw_below_drewN | apply below_drew1) | exact HB.out)) hb); clear HO_10; clear HO_11; clear HO310; clear HO322; clear HB; have HO_10 := n0_; have HO_11 := n1_; have HO310 := n2_; have HO322 := n3_; have HO325 := n4_; have HB := n5_; clear n0_ n1_ n2_ n3_ n4_ n5_; clear hb ho40) | ((with_reducible refine gate_builtin (b := .append) (xs := #[.tmp 86, .tmp 87]) rfl ?_); (try (refine gate_guard (by rfl) ?_; dsimp only)); at_builtin; refine Kd.R_append_rows Kd.string (w0 := w) w.heap.size rfl (.tmp 86) (.tmp 87) 22 9 (.string ⟨#[]⟩) 16 rfl Try.underlying22 info9 rfl (by decide) (by omega) v324 y323 x10_4 _ _ _ (fun k_ => some k_ ≠ (.slice Ao35 x10_4.length co35 : Value).ownBlock ∧ some k_ ≠ (.slice Ao38 x11_5.length co38 : Value).ownBlock ∧ some k_ ≠ (v321 : Value).ownBlock) (fun _ => False) rfl rfl ?aO ?aR (fun _ _ h => h) (fun _ h => h.elim) ?aF ?aB ?aS ?aL ?_; (case aR => repeat (first | exact (Kd.R_reads' HO_10.out).2.2 | (with_reducible refine Kd.C_alloc ?_ _) | (with_reducible refine Kd.C_drewN ?_ _) | (with_reducible refine Kd.C_drew ?_))); (case aB => exact (by repeat (first | (with_reducible first | exact HB.out | apply below_alloc | apply pw_below_drewN | apply below_drew1) | exact HB.out))); (case aF => exact (fun k_ hk => ⟨Kd.fresh' (Kd.R_lt (by (with_reducible repeat (first | apply Kd.R_alloc | apply Kd.R_drewN | apply Kd.R_drew)); exact HO_10.out)) k_ hk, Kd.fresh' (Kd.R_lt (by (with_reducible repeat (first | apply Kd.R_alloc | apply Kd.R_drewN | apply Kd.R_drew)); exact HO_11.out)) k_ hk, Kd.fresh' (Kd.R_lt (by (with_reducible repeat (first | apply Kd.R_alloc | apply Kd.R_drewN | apply Kd.R_drew)); exact HO322.out)) k_ hk⟩)); (case aO => exact (by (with_reducible repeat (first | apply Kd.R_alloc | apply Kd.R_drewN | apply Kd.R_drew)); exact Kd.R_mono HO325.out (fun _ hk => ⟨hk.1.1.2, ⟨hk.1.2, hk.2⟩⟩))); (case aS => exact (below_size (by repeat (first | (with_reducible first | exact HB.out | apply below_alloc | apply pw_below_drewN | apply below_drew1) | exact HB.out)))); (case aL => have := LMc26.out; omega); intro v327 w41 ho hb hg hat; rw [← Ny326.out] at ho; have n0_ := Aside0.mk (Kd.R_after (ok := (fun k_ => some k_ ≠ (.slice Ao38 x11_5.length co38 : Value).ownBlock ∧ some k_ ≠ (v321 : Value).ownBlock)) (by (with_reducible repeat (first | apply Kd.R_alloc | apply Kd.R_drewN | apply Kd.R_drew)); exact HO_10.out) hg hat); have n1_ := Aside0.mk (Kd.R_after (ok := (fun k_ => some k_ ≠ (.slice Ao35 x10_4.length co35 : Value).ownBlock ∧ some k_ ≠ (v321 : Value).ownBlock)) (by (with_reducible repeat (first | apply Kd.R_alloc | apply Kd.R_drewN | apply Kd.R_drew)); exact HO_11.out) hg hat); have n2_ := Aside0.mk (Kd.S_after (ok := (fun k_ => some k_ ≠ (.slice Ao35 x10_4.length co35 : Value).ownBlock ∧ some k_ ≠ (.slice Ao38 x11_5.length co38 : Value).ownBlock ∧ some k_ ≠ (v321 : Value).ownBlock)) (by (with_reducible repeat (first | apply Kd.S_alloc | apply Kd.S_drewN | apply Kd.S_drew)); exact Kd.S_mono HO310.out (fun _ hk => ⟨⟨hk.1.1.1, ⟨hk.1.1.2, hk.1.2⟩⟩, hk.2⟩)) hg hat); have n3_ := Aside0.mk (Kd.R_after (ok := (fun k_ => some k_ ≠ (.slice Ao35 x10_4.length co35 : Value).ownBlock ∧ some k_ ≠ (.slice Ao38 x11_5.length co38 : Value).ownBlock)) (by (with_reducible repeat (first | apply Kd.R_alloc | apply Kd.R_drewN | apply Kd.R_drew)); exact HO322.out) hg hat); have n4_ := Aside0.mk (hb); have n5_ := Aside0.mk (ho); clear HO_10; clear HO_11; clear HO310; clear HO322; clear HB; clear HO325; have HO_10 := n0_; have HO_11 := n1_; have HO310 := n2_; have HO322 := n3_; have HB := n4_; have HO328 := n5_; clear n0_ n1_ n2_ n3_ n4_ n5_; clear ho hb hg hat) | ((with_reducible refine gate_builtin (b := .append) (xs := #[.tmp 88, .tmp 89]) rfl ?_); (try (refine gate_guard (by rfl) ?_; dsimp only)); at_builtin; refine Kd.R_append_rows Kd.string (w0 := w) w.heap.size rfl (.tmp 88) (.tmp 89) 22 9 (.string ⟨#[]⟩) 16 rfl Try.underlying22 info9 rfl (by decide) (by omega) v327 y326 l1 _ _ _ (fun k_ => some k_ ≠ (.slice Ao35 x10_4.length co35 : Value).ownBlock ∧ some k_ ≠ (.slice Ao38 x11_5.length co38 : Value).ownBlock ∧ some k_ ≠ (v321 : Value).ownBlock) (fun _ => False) rfl rfl ?aO ?aR (fun _ _ h => h) (fun _ h => h.elim) ?aF ?aB ?aS ?aL ?_; (case aR => repeat (first | exact (Kd.C_below HR1.out HB.out) | (with_reducible refine Kd.C_alloc ?_ _) | (with_reducible refine Kd.C_drewN ?_ _) | (with_reducible refine Kd.C_drew ?_))); (case aB => exact (by repeat (first | (with_reducible first | exact HB.out | apply below_alloc | apply pw_below_drewN | apply below_drew1) | exact HB.out))); (case aF => exact (fun k_ hk => ⟨Kd.fresh' (Kd.R_lt (by (with_reducible repeat (first | apply Kd.R_alloc | apply Kd.R_drewN | apply Kd.R_drew)); exact HO_10.out)) k_ hk, Kd.fresh' (Kd.R_lt (by (with_reducible repeat (first | apply Kd.R_alloc | apply Kd.R_drewN | apply Kd.R_drew)); exact HO_11.out)) k_ hk, Kd.fresh' (Kd.R_lt (by (with_reducible repeat (first | apply Kd.R_alloc | apply Kd.R_drewN | apply Kd.R_drew)); exact HO322.out)) k_ hk⟩)); (case aO => exact (by (with_reducible repeat (first | apply Kd.R_alloc | apply Kd.R_drewN | apply Kd.R_drew)); exact HO328.out)); (case aS => exact (below_size (by repeat (first | (with_reducible first | exact HB.out | apply below_alloc | apply pw_below_drewN | apply below_drew1) | exact HB.out)))); (case aL => have := LMc27.out; omega); intro v330 w42 ho hb hg hat; rw [← Ny329.out] at ho; have n0_ := Aside0.mk (Kd.R_after (ok := (fun k_ => some k_ ≠ (.slice Ao38 x11_5.length co38 : Value).ownBlock ∧ some k_ ≠ (v321 : Value).ownBlock)) (by (with_reducible repeat (first | apply Kd.R_alloc | apply Kd.R_drewN | apply Kd.R_drew)); exact HO_10.out) hg hat); have n1_ := Aside0.mk (Kd.R_after (ok := (fun k_ => some k_ ≠ (.slice Ao35 x10_4.length co35 : Value).ownBlock ∧ some k_ ≠ (v321 : Value).ownBlock)) (by (with_reducible repeat (first | apply Kd.R_alloc | apply Kd.R_drewN | apply Kd.R_drew)); exact HO_11.out) hg hat); have n2_ := Aside0.mk (Kd.S_after (ok := (fun k_ => some k_ ≠ (.slice Ao35 x10_4.length co35 : Value).ownBlock ∧ some k_ ≠ (.slice Ao38 x11_5.length co38 : Value).ownBlock ∧ some k_ ≠ (v321 : Value).ownBlock)) (by (with_reducible repeat (first | apply Kd.S_alloc | apply Kd.S_drewN | apply Kd.S_drew)); exact HO310.out) hg hat); have n3_ := Aside0.mk (Kd.R_after (ok := (fun k_ => some k_ ≠ (.slice Ao35 x10_4.length co35 : Value).ownBlock ∧ some k_ ≠ (.slice Ao38 x11_5.length co38 : Value).ownBlock)) (by (with_reducible repeat (first | apply Kd.R_alloc | apply Kd.R_drewN | apply Kd.R_drew)); exact HO322.out) hg hat); have n4_ := Aside0.mk (hb); have n5_ := Aside0.mk (ho); clear HO_10; clear HO_11; clear HO310; clear HO322; clear HB; clear HO328; have HO_10 := n0_; have HO_11 := n1_; have HO310 := n2_; have HO322 := n3_; have HB := n4_; have HO331 := n5_; clear n0_ n1_ n2_ n3_ n4_ n5_; clear ho hb hg hat) | ((with_reducible refine gate_builtin (b := .append) (xs := #[.tmp 90, .tmp 91]) rfl ?_); (try (refine gate_guard (by rfl) ?_; dsimp only)); at_builtin; refine Kd.R_append_rows Kd.string (w0 := w) w.heap.size rfl (.tmp 90) (.tmp 91) 22 9 (.string ⟨#[]⟩) 16 rfl Try.underlying22 info9 rfl (by decide) (by omega) v330 y329 x11_5 _ _ _ (fun k_ => some k_ ≠ (.slice Ao35 x10_4.length co35 : Value).ownBlock ∧ some k_ ≠ (.slice Ao38 x11_5.length co38 : Value).ownBlock ∧ some k_ ≠ (v321 : Value).ownBlock) (fun _ => False) rfl rfl ?aO ?aR (fun _ _ h => h) (fun _ h => h.elim) ?aF ?aB ?aS ?aL ?_; (case aR => repeat (first | exact (Kd.R_reads' HO_11.out).2.2 | (with_reducible refine Kd.C_alloc ?_ _) | (with_reducible refine Kd.C_drewN ?_ _) | (with_reducible refine Kd.C_drew ?_))); (case aB => exact (by repeat (first | (with_reducible first | exact HB.out | apply below_alloc | apply pw_below_drewN | apply below_drew1) | exact HB.out))); (case aF => exact (fun k_ hk => ⟨Kd.fresh' (Kd.R_lt (by (with_reducible repeat (first | apply Kd.R_alloc | apply Kd.R_drewN | apply Kd.R_drew)); exact HO_10.out)) k_ hk, Kd.fresh' (Kd.R_lt (by (with_reducible repeat (first | apply Kd.R_alloc | apply Kd.R_drewN | apply Kd.R_drew)); exact HO_11.out)) k_ hk, Kd.fresh' (Kd.R_lt (by (with_reducible repeat (first | apply Kd.R_alloc | apply Kd.R_drewN | apply Kd.R_drew)); exact HO322.out)) k_ hk⟩)); (case aO => exact (by (with_reducible repeat (first | apply Kd.R_alloc | apply Kd.R_drewN | apply Kd.R_drew)); exact HO331.out)); (case aS => exact (below_size (by repeat (first | (with_reducible first | exact HB.out | apply below_alloc | apply pw_below_drewN | apply below_drew1) | exact HB.out)))); (case aL => have := LMc28.out; omega); intro v333 w43 ho hb hg hat; rw [← Ny332.out] at ho; have n0_ := Aside0.mk (Kd.R_after (ok := (fun k_ => some k_ ≠ (.slice Ao38 x11_5.length co38 : Value).ownBlock ∧ some k_ ≠ (v321 : Value).ownBlock)) (by (with_reducible repeat (first | apply Kd.R_alloc | apply Kd.R_drewN | apply Kd.R_drew)); exact HO_10.out) hg hat); have n1_ := Aside0.mk (Kd.R_after (ok := (fun k_ => some k_ ≠ (.slice Ao35 x10_4.length co35 : Value).ownBlock ∧ some k_ ≠ (v321 : Value).ownBlock)) (by (with_reducible repeat (first | apply Kd.R_alloc | apply Kd.R_drewN | apply Kd.R_drew)); exact HO_11.out) hg hat); have n2_ := Aside0.mk (Kd.S_after (ok := (fun k_ => some k_ ≠ (.slice Ao35 x10_4.length co35 : Value).ownBlock ∧ some k_ ≠ (.slice Ao38 x11_5.length co38 : Value).ownBlock ∧ some k_ ≠ (v321 : Value).ownBlock)) (by (with_reducible repeat (first | apply Kd.S_alloc | apply Kd.S_drewN | apply Kd.S_drew)); exact HO310.out) hg hat); have n3_ := Aside0.mk (Kd.R_after (ok := (fun k_ => some k_ ≠ (.slice Ao35 x10_4.length co35 : Value).ownBlock ∧ some k_ ≠ (.slice Ao38 x11_5.length co38 : Value).ownBlock)) (by (with_reducible repeat (first | apply Kd.R_alloc | apply Kd.R_drewN | apply Kd.R_drew)); exact HO322.out) hg hat); have n4_ := Aside0.mk (hb); have n5_ := Aside0.mk (ho); clear HO_10; clear HO_11; clear HO310; clear HO322; clear HB; clear HO331; have HO_10 := n0_; have HO_11 := n1_; have HO310 := n2_; have HO322 := n3_; have HB := n4_; have HO334 := n5_; clear n0_ n1_ n2_ n3_ n4_ n5_; clear ho hb hg hat; obtain ⟨Ao44, co44, eo44⟩ := Kd.R_slice HO322.out; subst eo44; obtain ⟨Ao45, co45, eo45⟩ := Kd.R_slice HO334.out; subst eo45) | ((with_reducible refine gate_callee (f := 15) rfl ?_); refine goesL_ (some 93) rfl rfl Try.func15 (by kernel_rfl) rfl #[.slice Ao44 y320.length co44, .slice Ao45 y332.length co45] rfl (by (try simp only [List.map_toArray, List.map_cons, List.map_nil]); first | done | rfl | (simp only [List.length_drop, List.length_take]; rfl)) ?_; (with_reducible refine (diff_Diff.calls _ _ y320 _ _ y332 t335 _ ?side1 ?side2 ?side3 ?side4 A29.out).mono ?_); (case side1 => repeat (first | exact (Kd.R_reads' HO322.out).2.2 | (with_reducible refine Kd.C_alloc ?_ _) | (with_reducible refine Kd.C_drewN ?_ _) | (with_reducible refine Kd.C_drew ?_))); (case side2 => exact (Kd.R_reads' HO322.out).2.1); (case side3 => repeat (first | exact (Kd.R_reads' HO334.out).2.2 | (with_reducible refine Kd.C_alloc ?_ _) | (with_reducible refine Kd.C_drewN ?_ _) | (with_reducible refine Kd.C_drew ?_))); (case side4 => exact (Kd.R_reads' HO334.out).2.1); rintro e w46 ⟨v336, rfl, ho0, hb⟩; refine ⟨_, rfl, ?_⟩; have n0_ := Aside0.mk (Kd.R_below (by (with_reducible repeat (first | apply Kd.R_alloc | apply Kd.R_drewN | apply Kd.R_drew)); exact HO_10.out) hb); have n1_ := Aside0.mk (Kd.R_below (by (with_reducible repeat (first | apply Kd.R_alloc | apply Kd.R_drewN | apply Kd.R_drew)); exact HO_11.out) hb); have n2_ := Aside0.mk (Kd.S_elder' (by (with_reducible repeat (first | apply Kd.S_alloc | apply Kd.S_drewN | apply Kd.S_drew)); exact HO310.out) (Kd.S_base ho0) hb); have n3_ := Aside0.mk (Kd.R_below (by (with_reducible repeat (first | apply Kd.R_alloc | apply Kd.R_drewN | apply Kd.R_drew)); exact HO322.out) hb); have n4_ := Aside0.mk (Kd.R_below (by (with_reducible repeat (first | apply Kd.R_alloc | apply Kd.R_drewN | apply Kd.R_drew)); exact HO334.out) hb); have n5_ := Aside0.mk (Kd.S_lower (Kd.S_new' (Kd.S_new' (Kd.S_new' (Kd.S_new' (Kd.S_new' ho0 (Kd.R_lt (by (with_reducible repeat (first | apply Kd.R_alloc | apply Kd.R_drewN | apply Kd.R_drew)); exact HO_10.out))) (Kd.R_lt (by (with_reducible repeat (first | apply Kd.R_alloc | apply Kd.R_drewN | apply Kd.R_drew)); exact HO_11.out))) (Kd.S_lt (by (with_reducible repeat (first | apply Kd.S_alloc | apply Kd.S_drewN | apply Kd.S_drew)); exact HO310.out))) (Kd.R_lt (by (with_reducible repeat (first | apply Kd.R_alloc | apply Kd.R_drewN | apply Kd.R_drew)); exact HO322.out))) (Kd.R_lt (by (with_reducible repeat (first | apply Kd.R_alloc | apply Kd.R_drewN | apply Kd.R_drew)); exact HO334.out))) (below_size (by repeat (first | (with_reducible first | exact HB.out | apply below_alloc | apply pw_below_drewN | apply below_drew1) | exact HB.out)))); have n6_ := Aside0.mk (below_step (by repeat (first | (with_reducible first | exact HB.out | apply below_alloc | apply pw_below_drewN | apply below_drew1) | exact HB.out)) hb); clear HO_10; clear HO_11; clear HO310; clear HO322; clear HO334; clear HB; have HO_10 := n0_; have HO_11 := n1_; have HO310 := n2_; have HO322 := n3_; have HO334 := n4_; have HO337 := n5_; have HB := n6_; clear n0_ n1_ n2_ n3_ n4_ n5_ n6_; (try clear hb); (try clear hb2); (try clear hk); (try clear hi); (try clear ho0); obtain ⟨Ao47, co47, eo47⟩ := Kd.S_slice HO310.out; subst eo47; obtain ⟨Ao48, co48, eo48⟩ := Kd.S_slice HO337.out; subst eo48))
                                              go_loopg [19] k5 (fun kq v19 w' => ∃ (x18_6 : List (S29)) (x19_6 : Int), v19 = .int .i64 x19_6 ∧ Aside0 (grapevinelaw04_DiffAround.l4 kq t299 x10_4 t308 x18_6 x19_6 = some r) ∧ Aside0 (kq ≤ k5) ∧ Aside0 (Kd.R Kd.string 9 w' w.heap.size (fun _ => True) (.slice Ao35 x10_4.length co35) x10_4) ∧ Aside0 (Kd.S k29 29 w' w.heap.size (fun k_ => some k_ ≠ ((.slice Ao35 x10_4.length co35) : Value).ownBlock ∧ some k_ ≠ ((.slice Ao48 t335.length co48) : Value).ownBlock) (.slice Ao47 t308.length co47) t308) ∧ Aside0 (Kd.S k29 29 w' w.heap.size (fun k_ => some k_ ≠ ((.slice Ao35 x10_4.length co35) : Value).ownBlock ∧ some k_ ≠ ((.slice Ao47 t308.length co47) : Value).ownBlock) (.slice Ao48 t335.length co48) x18_6) ∧ Aside0 (Below w.heap.size w w'))
                                              case atStart => exact ⟨(t335), (0), (by first | rfl | (simp; done) | (simp [*]; done)), H', ⟨Nat.le_refl _⟩, ⟨by (with_reducible repeat (first | apply Kd.R_alloc | apply Kd.R_drewN | apply Kd.R_drew)); exact Kd.R_mono HO_10.out (fun _ hk => trivial)⟩, ⟨by (with_reducible repeat (first | apply Kd.S_alloc | apply Kd.S_drewN | apply Kd.S_drew)); exact Kd.S_mono HO310.out (fun _ hk => ⟨hk.1.1.1, hk.2⟩)⟩, ⟨by (with_reducible repeat (first | apply Kd.S_alloc | apply Kd.S_drewN | apply Kd.S_drew)); exact Kd.S_mono HO337.out (fun _ hk => ⟨hk.1.1.1.1.2, hk.1.1.2⟩)⟩, ⟨by repeat (first | (with_reducible first | exact HB.out | apply below_alloc | apply pw_below_drewN | apply below_drew1) | exact HB.out)⟩⟩
                                              case round =>
                                                clear H'
                                                try clear c1
                                                try clear c2
                                                try clear p2
                                                try clear c3
                                                try clear p3
                                                try clear q3
                                                try clear hx3
                                                try clear p6
                                                try clear c8
                                                try clear c8b0
                                                try clear c8b1
                                                try clear c9
                                                try clear c10
                                                try clear c10b0
                                                try clear c11
                                                try clear c11b0
                                                try clear c12
                                                try clear c12b0
                                                try clear c12b1
                                                try clear c12b2
                                                try clear c13
                                                try clear c13b0
                                                try clear c14
                                                try clear c14b0
                                                try clear c15
                                                try clear c15b0
                                                try clear c15b1
                                                try clear c15b2
                                                try clear c16
                                                try clear c16b0
                                                try clear c17
                                                try clear c19
                                                try clear c19b0
                                                try clear c20
                                                try clear c23
                                                try clear c24
                                                try clear c25
                                                try clear c26
                                                try clear c27
                                                try clear c28
                                                try clear c30
                                                try clear c30b0
                                                try clear c30b1
                                                try clear c30b2
                                                try clear p30
                                                try clear q30
                                                try clear hx30
                                                try clear hx300_0
                                                try clear hx301_0
                                                try clear p2
                                                try clear p3
                                                try clear p300
                                                try clear p301
                                                try clear p6
                                                try clear q3
                                                try clear q300
                                                try clear q301
                                                obtain ⟨x18_6, x19_6, rfl, HA, HK6, HO_10, HO_17, HO_18, HB⟩ := hrel
                                                have hl18_6 := (Kd.S_reads' HO_18.out).1
                                                rw [hl18_6] at HO_18
                                                (try simp only [hl18_6])
                                                (try simp only [hl18_6] at HO_10)
                                                (try simp only [hl18_6] at HO_17)
                                                cases gk with
                                                | zero => exact absurd HA.out (by simp [grapevinelaw04_DiffAround.l4])
                                                | succ k6 =>
                                                  have H := HA.out
                                                  clear HA
                                                  simp only [grapevinelaw04_DiffAround.l4] at H
                                                  by_cases c49 : x19_6 < (x18_6.length : Int)
                                                  · rw [if_pos c49] at H
                                                    have c49b0 : decide (x19_6 < (x18_6.length : Int)) = true := decide_eq_true c49
                                                    clear c49
                                                    by_cases c50 : 0 ≤ x19_6
                                                    · rw [if_pos c50] at H
                                                      have c50b0 : decide (0 ≤ x19_6) = true := decide_eq_true c50
                                                      clear c50
                                                      obtain ⟨y339, hy339⟩ : ∃ y_ : List (S29), y_ = (x18_6.set (x19_6 : Int).toNat (⟨wrap64 (((rd_T29 x18_6 x19_6).f0) - (x10_4.length : Int)), (rd_T29 x18_6 x19_6).f1, (rd_T29 x18_6 x19_6).f2⟩ : S29)) := ⟨_, rfl⟩
                                                      replace H : (grapevinelaw04_DiffAround.l4 k6 t299 x10_4 t308 y339 (wrap64 (x19_6 + 1))) = some r := by first | (rw [hy339]; with_reducible exact H) | (have H2_ := (Option.bind_some _ _).symm.trans H; rw [hy339]; with_reducible exact H2_) | (have H2_ := (Option.bind_some _ _).symm.trans H; with_reducible exact H2_) | with_reducible exact H | (rw [hy339]; exact H) | exact H
                                                      have Ny339 := Aside0.mk hy339
                                                      clear hy339
                                                      have H' := Aside0.mk H
                                                      clear H
                                                      have p338 : 0 ≤ (x19_6 : Int) := of_decide_eq_true (by first | (with_reducible assumption) | assumption)
                                                      have q338 : x19_6 < (x18_6.length : Int) := of_decide_eq_true (by first | (with_reducible assumption) | assumption)
                                                      obtain ⟨ad338, A338_2, c338_2, e338, hx338_0, hx338_1, hx338_2, hl338_2, hi338_2⟩ := at_T29 (Kd.S_reads' HO_18.out).2.2 x19_6 p338 q338
                                                      cases e338
                                                      obtain ⟨ce338, hce338, hMe338, hcc338⟩ := Kd.S_get HO_18.out z29 x19_6 p338 (by first | exact q338 | exact of_decide_eq_true (by first | (with_reducible assumption) | assumption) | (have e_ := (Kd.S_reads' HO_18.out).1; omega))
                                                      obtain ⟨ve338_2, rfl, ge338_2⟩ := k29_openM hMe338
                                                      have hv338_2 := hcc338 2 _ rfl
                                                      rw [add_field _ _ 2 (by omega)] at hv338_2
                                                      replace hv338_2 := Option.some.inj (hv338_2.symm.trans hx338_2)
                                                      rw [hv338_2] at ge338_2
                                                      have HL338_2 := Aside0.mk (show Kd.R Kd.string 9 _ _ _ _ ((rd_T29 x18_6 x19_6).f2) from ge338_2)
                                                      clear hv338_2 ge338_2
                                                      clear hcc338 hce338
                                                      have HR338_2 := Aside0.mk hi338_2
                                                      have HC338_2 := Aside0.mk hl338_2
                                                      clear hi338_2 hl338_2
                                                      replace p338 := eq_true p338
                                                      replace q338 := eq_true q338
                                                      have p51 : 0 ≤ (x19_6 : Int) := of_decide_eq_true (by first | (with_reducible assumption) | assumption)
                                                      have q51 : (x19_6 : Int) < ((x18_6.length : Int) : Int) := of_decide_eq_true (by first | (with_reducible assumption) | assumption)
                                                      obtain ⟨go51, co51, eo51, gb51, gl51, cl51, HG51⟩ := Kd.S_form HO_18.out (by omega)
                                                      (first | cases eo51 | (injection eo51 with ea_ en_ ec_; (first | subst ea_ | (injection ea_ with ea_; subst ea_)); subst ec_; clear en_))
                                                      have GB51 := Aside0.mk gb51
                                                      have GG51 := Aside0.mk HG51
                                                      clear gb51 gl51 HG51
                                                      (first | simp only [add_plain] at hx338_0 | skip)
                                                      (first | simp only [add_plain] at hx338_1 | skip)
                                                      (first | simp only [add_plain] at hx338_2 | skip)
                                                      obtain ⟨_, ce51, hcl51, hM51, hcc51, hfr51, _, _⟩ := Kd.S_elem HO_18.out z29 (x19_6 : Int) p51 q51
                                                      obtain ⟨ve51_2, rfl, ge51_2⟩ := k29_openM hM51
                                                      have hx51_0 : wr.cell? ⟨go51, (x19_6 : Int).toNat * 3, none⟩ = some (.int .i64 ((rd_T29 x18_6 x19_6).f0)) := hcc51 0 _ rfl
                                                      have hx51_1 : wr.cell? ⟨go51, (x19_6 : Int).toNat * 3 + 1, none⟩ = some (.int .i64 ((rd_T29 x18_6 x19_6).f1)) := hcc51 1 _ rfl
                                                      have hx51_2 : wr.cell? ⟨go51, (x19_6 : Int).toNat * 3 + 2, none⟩ = some (ve51_2) := hcc51 2 _ rfl
                                                      have hf51_0 : wr.frozen? ⟨go51, (x19_6 : Int).toNat * 3, none⟩ = false := hfr51 0
                                                      have hf51_1 : wr.frozen? ⟨go51, (x19_6 : Int).toNat * 3 + 1, none⟩ = false := hfr51 1
                                                      have hf51_2 : wr.frozen? ⟨go51, (x19_6 : Int).toNat * 3 + 2, none⟩ = false := hfr51 2
                                                      (try clear hcl51); (try clear hcc51); (try clear hfr51); (try clear hM51)
                                                      replace p51 := eq_true p51
                                                      replace q51 := eq_true q51
                                                      have HX52 := Aside0.mk (show Kd.S k29 29 wr w.heap.size (fun k_ => ((fun k_ => some k_ ≠ (.slice Ao35 x10_4.length co35 : Value).ownBlock ∧ some k_ ≠ (.slice Ao47 t308.length co47 : Value).ownBlock)) k_ ∧ ¬ ((fun _ => False)) k_) (.slice (some ⟨go51, 0, none⟩) x18_6.length co48) x18_6 from (by (with_reducible repeat (first | apply Kd.S_alloc | apply Kd.S_drewN | apply Kd.S_drew)); exact Kd.S_mono HO_18.out (fun k_ hk => ⟨⟨hk.1, hk.2⟩, fun e_ => e_⟩)))
                                                      obtain ⟨oki52, ce52, hcl52, hM52, hcc52, hfr52, hoki52, hH52⟩ := Kd.S_elem HX52.out z29 (x19_6 : Int) (of_decide_eq_true (by first | (with_reducible assumption) | assumption)) (by have h_ : (x19_6 : Int) < ((x18_6.length : Int) : Int) := of_decide_eq_true (by first | (with_reducible assumption) | assumption); first | exact h_ | (have e_ := (Kd.S_reads' HO_18.out).1; omega) | simpa using h_)
                                                      obtain ⟨ve52_2, rfl, ge52_2⟩ := k29_openM hM52
                                                      have HP52 := Kd.S_seg hH52 (of_decide_eq_true (by first | (with_reducible assumption) | assumption)) (by have h_ : (x19_6 : Int) < ((x18_6.length : Int) : Int) := of_decide_eq_true (by first | (with_reducible assumption) | assumption); first | exact h_ | (have e_ := (Kd.S_reads' HO_18.out).1; omega) | simpa using h_) (seg := [.int .i64 (wrap64 (((rd_T29 x18_6 x19_6).f0) - (x10_4.length : Int)))]) (j := 0) (show 1 ≤ 3 from by decide) (x' := (⟨wrap64 (((rd_T29 x18_6 x19_6).f0) - (x10_4.length : Int)), (rd_T29 x18_6 x19_6).f1, (rd_T29 x18_6 x19_6).f2⟩ : S29)) (k29_mkM _ _ _ (⟨wrap64 (((rd_T29 x18_6 x19_6).f0) - (x10_4.length : Int)), (rd_T29 x18_6 x19_6).f1, (rd_T29 x18_6 x19_6).f2⟩ : S29) (Kd.R_mono ge52_2 (fun _ h_ => Or.inl h_))) (fun _ hk => hk) (fun k_ hk_ => hk_.elim)
                                                      have hx52_0 := hcc52 0 _ rfl
                                                      (try simp only [show (k29).sz = 3 from rfl, Nat.mul_one, Nat.add_zero] at hx52_0)
                                                      have hf52_0 := hfr52 0
                                                      (try simp only [show (k29).sz = 3 from rfl, Nat.mul_one, Nat.add_zero] at hf52_0)
                                                      (try clear hcl52); (try clear hcc52); (try clear hfr52); (try clear hM52); (try clear hoki52); (try clear hH52)
                                                      go_wp2_with (first | ((with_reducible refine gate_store (t := 3) (p := 116) rfl ?_); refine store_event (t := 3) (p := 116) (v := ?vo_w53) (w1 := (wr.setCell ⟨go51, (x19_6 : Int).toNat * 3, none⟩ (.int .i64 (wrap64 (((rd_T29 x18_6 x19_6).f0) - (x10_4.length : Int)))))) ?hg ?ho ?hn ?hr ?_; (case ho => rfl); (case hg => rfl); (case hn => rfl); (case hr => first | (go_simp; done) | (go_simp; rfl)); intro w53 hw; have hg : wr.grownBy w53 (some go51) := (by rw [hw]; exact HP52.2); have hp_ : Kd.S k29 29 w53 w.heap.size (fun k_ => some k_ ≠ (.slice Ao35 x10_4.length co35 : Value).ownBlock ∧ some k_ ≠ (.slice Ao47 t308.length co47 : Value).ownBlock) (.slice (some ⟨go51, 0, none⟩) x18_6.length co48) y339 := (by rw [hw, Ny339.out]; exact HP52.1); clear HP52; have n0_ := Aside0.mk (Kd.R_over' (v := (.slice (some ⟨go51, 0, none⟩) x18_6.length co48)) (by (with_reducible repeat (first | apply Kd.R_alloc | apply Kd.R_drewN | apply Kd.R_drew)); exact HO_10.out) (Kd.S_typed HO_18.out) (by decide) hg); have n1_ := Aside0.mk (Kd.S_after (v := (.slice (some ⟨go51, 0, none⟩) x18_6.length co48)) (v1 := (.slice (some ⟨go51, 0, none⟩) x18_6.length co48)) (ok := (fun k_ => some k_ ≠ (.slice Ao35 x10_4.length co35 : Value).ownBlock)) (by (with_reducible repeat (first | apply Kd.S_alloc | apply Kd.S_drewN | apply Kd.S_drew)); exact HO_17.out) hg (.inl rfl)); have n2_ := Aside0.mk (hp_); have n3_ := Aside0.mk (Kd.R_after (v := (.slice (some ⟨go51, 0, none⟩) x18_6.length co48)) (v1 := (.slice (some ⟨go51, 0, none⟩) x18_6.length co48)) (ok := (fun k_ => some k_ ≠ (.slice Ao35 x10_4.length co35 : Value).ownBlock ∧ some k_ ≠ (.slice Ao47 t308.length co47 : Value).ownBlock)) (by (with_reducible repeat (first | apply Kd.R_alloc | apply Kd.R_drewN | apply Kd.R_drew)); exact HL338_2.out) hg (.inl rfl)); have n4_ := Aside0.mk ((by rw [hw]; exact below_set (HB.out) GB51.out : Below w.heap.size w w53)); clear HO_10; clear HO_17; clear HO_18; clear HL338_2; clear HB; have HO_10 := n0_; have HO_17 := n1_; have HO_18 := n2_; have HL338_2 := n3_; have HB := n4_; clear n0_ n1_ n2_ n3_ n4_; clear hg hw hp_))
                                                      (try simp only [← hl18_6])
                                                      go_roundg k6
                                                      case measure => have := HJ5.out; have := HK2.out; have := HK3.out; have := HK4.out; have := HK5.out; have := HK6.out; omega
                                                      case rel => exact ⟨(y339), (wrap64 (x19_6 + 1)), (by first | rfl | (simp; done) | (simp [*]; done)), H', ⟨by have := HJ5.out; have := HK2.out; have := HK3.out; have := HK4.out; have := HK5.out; have := HK6.out; omega⟩, ⟨by (try simp only [hl18_6]); (with_reducible repeat (first | apply Kd.R_alloc | apply Kd.R_drewN | apply Kd.R_drew)); exact HO_10.out⟩, ⟨by (try simp only [hl18_6]); (with_reducible repeat (first | apply Kd.S_alloc | apply Kd.S_drewN | apply Kd.S_drew)); exact HO_17.out⟩, ⟨by (try simp only [hl18_6]); (with_reducible repeat (first | apply Kd.S_alloc | apply Kd.S_drewN | apply Kd.S_drew)); exact HO_18.out⟩, ⟨by repeat (first | (with_reducible first | exact HB.out | apply below_alloc | apply pw_below_drewN | apply below_drew1) | exact HB.out)⟩⟩
                                                    · rw [if_neg c50] at H
                                                      exact absurd H (by simp)
                                                  · rw [if_neg c49] at H
                                                    have c49b0 : decide (x19_6 < (x18_6.length : Int)) = false := decide_eq_false c49
                                                    clear c49
                                                    by_cases c54 : t299 = true
                                                    · subst c54
                                                      have H1 : ((grapevineref04_Same.f t308 x18_6).bind fun t340 => (some t340)) = some r := by rw [if_pos rfl] at H; exact H
                                                      clear H
                                                      have H := H1
                                                      clear H1
                                                      replace H := Option.bind_eq_some_iff.mp H
                                                      obtain ⟨t340, A550, H⟩ := H
                                                      replace H : (some t340) = some r := H
                                                      have A55 := Aside0.mk A550
                                                      clear A550
                                                      obtain rfl := Option.some.inj H
                                                      go_wp2_with (first | (go_at_call 14; (with_reducible refine (grapevineref04_Same.calls _ _ t308 _ _ x18_6 t340 _ ?side1 ?side2 ?side3 ?side4 A55.out).mono ?_); (case side1 => repeat (first | exact (Kd.S_reads' HO_17.out).2.2 | (with_reducible refine Kd.C_alloc ?_ _) | (with_reducible refine Kd.C_drewN ?_ _) | (with_reducible refine Kd.C_drew ?_))); (case side2 => exact (Kd.S_reads' HO_17.out).2.1); (case side3 => repeat (first | exact (Kd.S_reads' HO_18.out).2.2 | (with_reducible refine Kd.C_alloc ?_ _) | (with_reducible refine Kd.C_drewN ?_ _) | (with_reducible refine Kd.C_drew ?_))); (case side4 => exact (Kd.S_reads' HO_18.out).2.1); rintro e w' ⟨rfl, ⟨nd, rfl⟩⟩))
                                                      go_ret
                                                      exact ⟨by first | rfl | (simp [errW_none, errW_some] <;> rfl) | (simp [*, errW_none, errW_some] <;> rfl), by repeat (first | (with_reducible first | exact HB.out | apply below_alloc | apply pw_below_drewN | apply below_drew1) | exact HB.out)⟩
                                                    · replace c54 := Bool.eq_false_iff.mpr c54
                                                      subst c54
                                                      have H1 : (some false) = some r := by rw [if_neg (show ¬ (false = true) by decide)] at H; exact H
                                                      clear H
                                                      have H := H1
                                                      clear H1
                                                      exact absurd (H.trans (congrArg some hrt_.out)) (by simp)
                                            · rw [if_neg c30] at H
                                              have c30b0 : ((t308.length : Int) == (t335.length : Int)) = false := beq_eq_false_iff_ne.mpr c30
                                              have c30b1 : ((t308.length : Int) != (t335.length : Int)) = true := bne_iff_ne.mpr c30
                                              have c30b2 : (t308.length == t335.length) = false := by first | simpa using c30 | (simp at c30 ⊢; omega)
                                              exact absurd (H.trans (congrArg some hrt_.out)) (by simp)
                                          · rw [if_neg c28] at H
                                            exact absurd H (by simp)
                                        · rw [if_neg c27] at H
                                          exact absurd H (by simp)
                                      · rw [if_neg c26] at H
                                        exact absurd H (by simp)
                                    · rw [if_neg c25] at H
                                      exact absurd H (by simp)
                                  · rw [if_neg c24] at H
                                    exact absurd H (by simp)
                                · rw [if_neg c23] at H
                                  exact absurd H (by simp)

end Go.Proofs.Ytebfopcihjadpaa.Pr
