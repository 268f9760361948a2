/-
Several plain texts in one.
-/
import Derived.Test.YtnmphfelebkaiaaGAwakeA0
import Derived.Test.YtnmphfelebkaiaaK0
import Derived.Test.YtnmphfelebkaiaaK3
import Derived.Test.YtnmphfelebkaiaaGRightA
import Derived.Test.YtnmphfelebkaiaaGRegW
import Derived.Deep.Strs
import Derived.SizedLaws
import Derived.ChangeOld
import Derived.Carry
import Derived.Test.YtnmphfelebkaiaaWWords
import Derived.Test.YtnmphfelebkaiaaWMore
import Derived.Test.YtnmphfelebkaiaaWLast
import Derived.KernelRfl
/-
The chapter's example of layer 8: it answers true.
-/
namespace Go.Proofs.Ytnmphfelebkaiaa.Pr
open Go.RowKit Go.Proofs.YtnmphfelebkaiaaW.PrintWords Go.Proofs.YtnmphfelebkaiaaW.PrintLast Go.Proofs.YtnmphfelebkaiaaW.PrintMore
set_option linter.unusedVariables false
set_option linter.unusedSimpArgs false
def exO : List ByteArray := [⟨#[49]⟩, ⟨#[50]⟩, ⟨#[51]⟩]
def exA : List ByteArray := [⟨#[49]⟩, ⟨#[120]⟩, ⟨#[51]⟩]
def exB : List ByteArray := [⟨#[49]⟩, ⟨#[50]⟩, ⟨#[51]⟩, ⟨#[52]⟩]
def exE0 : Ed := ⟨1, 1, [⟨#[120]⟩]⟩
def exE1 : Ed := ⟨3, 0, [⟨#[52]⟩]⟩
theorem ex_between0 : between exO exA = [exE0] := by
 have e : ¬ (⟨#[50]⟩ : ByteArray) = (⟨#[120]⟩ : ByteArray) := by decide
 simp [exO, exA, exE0, between, midEdits, midOf, endOf, frontOf, common, steps, lcsLen, edits, addDel, addIns, opened, edLast, e]
theorem ex_between1 : between exO exB = [exE1] := by
 simp [exO, exB, exE1, between, midEdits, midOf, endOf, frontOf, common, steps, lcsLen, edits, addDel, addIns, opened, edLast]
def exC0 : Cl := ⟨1, 2, 0, 0, true, false⟩
def exC1 : Cl := ⟨3, 3, 0, 1, false, true⟩
theorem ex_ab0 : absorb (startC [exE0] [exE1]) [exE0] [exE1] = (exC0, [], [exE1]) := by
 rw [absorb_0 (by decide)]
 exact absorb_no (c := exC0) (l0 := []) (l1 := [exE1]) (by decide) (by decide)
theorem ex_ab1 : absorb (startC [] [exE1]) [] [exE1] = (exC1, [], []) := by
 rw [absorb_1 (by decide) (by decide)]
 exact absorb_no (c := exC1) (l0 := []) (l1 := []) (by decide) (by decide)
theorem ex_clusters : clusters [exE0] [exE1] = [exC0, exC1] := by
 rw [clusters_cons (by decide), ex_ab0]
 dsimp only
 rw [clusters_cons (by decide), ex_ab1]
 dsimp only
 rw [clusters_nil (by decide)]
def exR : List S32 := [⟨0, ⟨0, 1⟩, ⟨0, 1⟩, ⟨0, 1⟩⟩, ⟨1, ⟨1, 1⟩, ⟨1, 1⟩, ⟨1, 1⟩⟩, ⟨0, ⟨2, 1⟩, ⟨2, 1⟩, ⟨2, 1⟩⟩, ⟨2, ⟨3, 0⟩, ⟨3, 0⟩, ⟨3, 1⟩⟩]
theorem ex_regions : regionsP exO exA exB = exR := by
 rw [regionsP, ex_between0, ex_between1, ex_clusters]
 rfl
theorem ex_right : rightR exO exA exB 0 0 0 exR = true := by decide
def grapevinelaw08_awake.f : Option Bool := some true
theorem ex_awake : grapevinelaw08_awake0.f = some true := by
 have h1 : align_Regions.f [⟨#[49]⟩, ⟨#[50]⟩, ⟨#[51]⟩] [⟨#[49]⟩, ⟨#[120]⟩, ⟨#[51]⟩] [⟨#[49]⟩, ⟨#[50]⟩, ⟨#[51]⟩, ⟨#[52]⟩] = some exR := (regions_some exO exA exB (by decide) (by decide) (by decide)).trans (congrArg some ex_regions)
 have h2 : align_Right.f exR [⟨#[49]⟩, ⟨#[50]⟩, ⟨#[51]⟩] [⟨#[49]⟩, ⟨#[120]⟩, ⟨#[51]⟩] [⟨#[49]⟩, ⟨#[50]⟩, ⟨#[51]⟩, ⟨#[52]⟩] = some true := by
  rw [align_Right.f, if_pos ⟨by decide, by decide, by decide, by decide⟩]
  exact congrArg some ex_right
 unfold grapevinelaw08_awake0.f
 simp only [Option.bind_some]
 rw [h1, Option.bind_some, if_pos (by decide), h2, Option.bind_some]
 rfl
theorem grapevinelaw08_awake.calls (r : Bool) (w : World) (h : grapevinelaw08_awake.f = some r) :
  Calls Try.prog 7 #[] w fun e w' => e = .returned (.bool r) ∧ Below w.heap.size w w' := by
 obtain rfl := Option.some.inj h
 exact grapevinelaw08_awake0.calls true w ⟨rfl⟩ ex_awake
end Go.Proofs.Ytnmphfelebkaiaa.Pr
-- shrunk
-- written by a program of this session's (a turned copy of the kit's printer); Lean checks it
namespace Go.Proofs.Ytnmphfelebkaiaa.Pr
open Go.RowKit Go.Proofs.YtnmphfelebkaiaaW.PrintWords Go.Proofs.YtnmphfelebkaiaaW.PrintLast Go.Proofs.YtnmphfelebkaiaaW.PrintMore
attribute [local go_sem] max2_int min2_int max_two min_two max_three min_three max_four min_four   -- for this text's walks alone
set_option linter.unusedVariables false
set_option linter.unusedSimpArgs false



mutual
def grapevinelaw08_AlignWhole.j0 : Nat → List ByteArray → List ByteArray → List ByteArray → Bool → Bool → Option (Bool)
 | 0, _, _, _, _, _ => none
 | k + 1, x0, x1, x2, x7, x23 => if x23 = true then (some x7) else ((align_Regions.f x0 x1 x2).bind fun t115 => (grapevinelaw08_AlignWhole.l0 k x0 x1 x2 x7 t115 0))
def grapevinelaw08_AlignWhole.l0 : Nat → List ByteArray → List ByteArray → List ByteArray → Bool → List (S32) → Int → Option (Bool)
 | 0, _, _, _, _, _, _ => none
 | k + 1, x0, x1, x2, x7, x8, x9 => if x9 < (x8.length : Int) then (if x9 > 0 then (if 0 ≤ x9 then (if 0 ≤ (wrap64 (x9 - 1)) then (if (wrap64 (x9 - 1)) < (x8.length : Int) then (grapevinelaw08_AlignWhole.j2 k x0 x1 x2 x7 x8 x9 ((((rd_T32 x8 x9).f0) == 0) == (((rd_T32 x8 (wrap64 (x9 - 1))).f0) == 0))) else (none)) else (none)) else (none)) else (grapevinelaw08_AlignWhole.j2 k x0 x1 x2 x7 x8 x9 false)) else (if x7 = true then ((align_Right.f x8 x0 x1 x2).bind fun t118 => (some t118)) else (some false))
def grapevinelaw08_AlignWhole.j2 : Nat → List ByteArray → List ByteArray → List ByteArray → Bool → List (S32) → Int → Bool → Option (Bool)
 | 0, _, _, _, _, _, _, _ => none
 | k + 1, x0, x1, x2, x7, x8, x9, x52 => if x52 = true then (some false) else (if 0 ≤ x9 then (if x9 < (x8.length : Int) then (if (wrap64 ((wrap64 (((rd_T32 x8 x9).f1.f1) + ((rd_T32 x8 x9).f2.f1))) + ((rd_T32 x8 x9).f3.f1))) < 1 then (some false) else (grapevinelaw08_AlignWhole.l0 k x0 x1 x2 x7 x8 (wrap64 (x9 + 1)))) else (none)) else (none))
end
def grapevinelaw08_AlignWhole.f (k : Nat) (l0 : List ByteArray) (l1 : List ByteArray) (l2 : List ByteArray) : Option (Bool) := (grapevinelaw08_awake.f).bind fun t114 => (if (l0.length : Int) > 30 then (grapevinelaw08_AlignWhole.j0 k l0 l1 l2 t114 true) else (if (l1.length : Int) > 30 then (grapevinelaw08_AlignWhole.j0 k l0 l1 l2 t114 true) else (grapevinelaw08_AlignWhole.j0 k l0 l1 l2 t114 (decide ((l2.length : Int) > 30)))))
theorem grapevinelaw08_AlignWhole.mono_l : ∀ k, (∀ y0 y1 y2 y3 y4, LeO (grapevinelaw08_AlignWhole.j0 k y0 y1 y2 y3 y4) (grapevinelaw08_AlignWhole.j0 (k + 1) y0 y1 y2 y3 y4)) ∧ (∀ y0 y1 y2 y3 y4 y5, LeO (grapevinelaw08_AlignWhole.l0 k y0 y1 y2 y3 y4 y5) (grapevinelaw08_AlignWhole.l0 (k + 1) y0 y1 y2 y3 y4 y5)) ∧ (∀ y0 y1 y2 y3 y4 y5 y6, LeO (grapevinelaw08_AlignWhole.j2 k y0 y1 y2 y3 y4 y5 y6) (grapevinelaw08_AlignWhole.j2 (k + 1) y0 y1 y2 y3 y4 y5 y6))
 | 0 => ⟨fun _ _ _ _ _ r h => by simp [grapevinelaw08_AlignWhole.j0] at h, fun _ _ _ _ _ _ r h => by simp [grapevinelaw08_AlignWhole.l0] at h, fun _ _ _ _ _ _ _ r h => by simp [grapevinelaw08_AlignWhole.j2] at h⟩
 | k + 1 => by
  obtain ⟨ih0, ih1, ih2⟩ := grapevinelaw08_AlignWhole.mono_l k
  refine ⟨?_, ?_, ?_⟩
  ·intro y0 y1 y2 y3 y4
   unfold grapevinelaw08_AlignWhole.j0
   repeat' first
   | (with_reducible exact ih0 _ _ _ _ _)
   | (with_reducible exact ih1 _ _ _ _ _ _)
   | (with_reducible exact ih2 _ _ _ _ _ _ _)
   | (with_reducible exact LeO.refl _)
   | (with_reducible exact LeO.none _)
   | (with_reducible refine LeO.ite ?_ ?_)
   | (with_reducible refine LeO.bind ?_ (fun _ => ?_))
   | exact ih0 _ _ _ _ _
   | exact ih1 _ _ _ _ _ _
   | exact ih2 _ _ _ _ _ _ _
   | exact LeO.none _
   | refine LeO.ite ?_ ?_
   | refine LeO.bind ?_ (fun _ => ?_)
  ·intro y0 y1 y2 y3 y4 y5
   unfold grapevinelaw08_AlignWhole.l0
   repeat' first
   | (with_reducible exact ih0 _ _ _ _ _)
   | (with_reducible exact ih1 _ _ _ _ _ _)
   | (with_reducible exact ih2 _ _ _ _ _ _ _)
   | (with_reducible exact LeO.refl _)
   | (with_reducible exact LeO.none _)
   | (with_reducible refine LeO.ite ?_ ?_)
   | (with_reducible refine LeO.bind ?_ (fun _ => ?_))
   | exact ih0 _ _ _ _ _
   | exact ih1 _ _ _ _ _ _
   | exact ih2 _ _ _ _ _ _ _
   | exact LeO.none _
   | refine LeO.ite ?_ ?_
   | refine LeO.bind ?_ (fun _ => ?_)
  ·intro y0 y1 y2 y3 y4 y5 y6
   unfold grapevinelaw08_AlignWhole.j2
   repeat' first
   | (with_reducible exact ih0 _ _ _ _ _)
   | (with_reducible exact ih1 _ _ _ _ _ _)
   | (with_reducible exact ih2 _ _ _ _ _ _ _)
   | (with_reducible exact LeO.refl _)
   | (with_reducible exact LeO.none _)
   | (with_reducible refine LeO.ite ?_ ?_)
   | (with_reducible refine LeO.bind ?_ (fun _ => ?_))
   | exact ih0 _ _ _ _ _
   | exact ih1 _ _ _ _ _ _
   | exact ih2 _ _ _ _ _ _ _
   | exact LeO.none _
   | refine LeO.ite ?_ ?_
   | refine LeO.bind ?_ (fun _ => ?_)
theorem grapevinelaw08_AlignWhole.mono : ∀ a0 a1 a2 k, LeO (grapevinelaw08_AlignWhole.f k a0 a1 a2) (grapevinelaw08_AlignWhole.f (k + 1) a0 a1 a2) := by
 intro a0 a1 a2 k
 obtain ⟨ih0, ih1, ih2⟩ := grapevinelaw08_AlignWhole.mono_l k
 unfold grapevinelaw08_AlignWhole.f
 repeat' first
   | (with_reducible exact ih0 _ _ _ _ _)
   | (with_reducible exact ih1 _ _ _ _ _ _)
   | (with_reducible exact ih2 _ _ _ _ _ _ _)
   | (with_reducible exact LeO.refl _)
   | (with_reducible exact LeO.none _)
   | (with_reducible refine LeO.ite ?_ ?_)
   | (with_reducible refine LeO.bind ?_ (fun _ => ?_))
   | exact ih0 _ _ _ _ _
   | exact ih1 _ _ _ _ _ _
   | exact ih2 _ _ _ _ _ _ _
   | exact LeO.none _
   | refine LeO.ite ?_ ?_
   | refine LeO.bind ?_ (fun _ => ?_)
set_option maxHeartbeats 8000000 in
set_option maxRecDepth 100000 in
theorem grapevinelaw08_AlignWhole.calls (k : Nat) (A0 : Option Addr) (c0 : Nat) (l0 : List ByteArray) (A1 : Option Addr) (c1 : Nat) (l1 : List ByteArray) (A2 : Option Addr) (c2 : Nat) (l2 : List ByteArray) (r : Bool) (w : World) (hrt_ : Aside0 (r = true)) (hr0 : Kd.C Kd.string w A0 l0.length l0) (hc0 : l0.length ≤ c0) (hr1 : Kd.C Kd.string w A1 l1.length l1) (hc1 : l1.length ≤ c1) (hr2 : Kd.C Kd.string w A2 l2.length l2) (hc2 : l2.length ≤ c2) (h : grapevinelaw08_AlignWhole.f k l0 l1 l2 = some r) :
  Calls Try.prog 5 #[.slice A0 l0.length c0, .slice A1 l1.length c1, .slice A2 l2.length c2] w fun e w' => e = .returned (.bool r) ∧ Below w.heap.size w w' := by
 have HR0 := Aside0.mk hr0
 have HC0 := Aside0.mk hc0
 clear hr0 hc0
 have HR1 := Aside0.mk hr1
 have HC1 := Aside0.mk hc1
 clear hr1 hc1
 have HR2 := Aside0.mk hr2
 have HC2 := Aside0.mk hc2
 clear hr2 hc2
 have HB := Aside0.mk (Below.refl w.heap.size w)
 have H : ((grapevinelaw08_awake.f).bind fun t114 => (if (l0.length : Int) > 30 then (grapevinelaw08_AlignWhole.j0 k l0 l1 l2 t114 true) else (if (l1.length : Int) > 30 then (grapevinelaw08_AlignWhole.j0 k l0 l1 l2 t114 true) else (grapevinelaw08_AlignWhole.j0 k l0 l1 l2 t114 (decide ((l2.length : Int) > 30)))))) = some r := h
 clear h
 replace H := Option.bind_eq_some_iff.mp H
 obtain ⟨t114, A40, H⟩ := H
 replace H : (if (l0.length : Int) > 30 then (grapevinelaw08_AlignWhole.j0 k l0 l1 l2 t114 true) else (if (l1.length : Int) > 30 then (grapevinelaw08_AlignWhole.j0 k l0 l1 l2 t114 true) else (grapevinelaw08_AlignWhole.j0 k l0 l1 l2 t114 (decide ((l2.length : Int) > 30))))) = some r := H
 have A4 := Aside0.mk A40
 clear A40
 have HC5 := Aside0.mk H
 clear H
 go_enter Try.func5, Try.ntmps5
 go_upto_region 2 with (first | (go_at_call 7; (with_reducible refine (grapevinelaw08_awake.calls  t114 _ A4.out).mono ?_); rintro e w6 ⟨rfl, hb⟩; have n0_ := Aside0.mk (below_step (by repeat (first | (with_reducible first | exact HB.out | apply below_alloc | apply pw_below_drewN | apply below_drew1) | exact HB.out)) hb); clear HB; have HB := n0_; clear n0_; (try clear hb); (try clear hb2); (try clear hk); (try clear hi)))
 repeat (go_quiet (first | (go_at_call 7; (with_reducible refine (grapevinelaw08_awake.calls  t114 _ A4.out).mono ?_); rintro e w6 ⟨rfl, hb⟩; have n0_ := Aside0.mk (below_step (by repeat (first | (with_reducible first | exact HB.out | apply below_alloc | apply pw_below_drewN | apply below_drew1) | exact HB.out)) hb); clear HB; have HB := n0_; clear n0_; (try clear hb); (try clear hb2); (try clear hk); (try clear hi))); go_upto_region 2 with (first | (go_at_call 7; (with_reducible refine (grapevinelaw08_awake.calls  t114 _ A4.out).mono ?_); rintro e w6 ⟨rfl, hb⟩; have n0_ := Aside0.mk (below_step (by repeat (first | (with_reducible first | exact HB.out | apply below_alloc | apply pw_below_drewN | apply below_drew1) | exact HB.out)) hb); clear HB; have HB := n0_; clear n0_; (try clear hb); (try clear hb2); (try clear hk); (try clear hi))))
 (try simp only [Act.put, List.setIfInBounds_toArray, List.set_cons_zero, List.set_cons_succ])
 go_cut [23] (fun v23 wc => ∃ (kq : Nat) (x23_4 : Bool), v23 = .bool x23_4 ∧ Aside0 (grapevinelaw08_AlignWhole.j0 kq l0 l1 l2 t114 x23_4 = some r) ∧ Aside0 (kq ≤ k) ∧ Aside0 (Below w.heap.size w wc))
 case first =>
  have H := HC5.out
  clear HC5
  by_cases c7 : (l0.length : Int) > 30
  ·rw [if_pos c7] at H
   have c7b0 : decide (30 < (l0.length : Int)) = true := decide_eq_true c7
   have c7b1 : decide (30 < l0.length) = true := decide_eq_true (by omega)
   clear c7
   (first | rw [c7b0] | (simp only [i64_w, i32_w]; rw [c7b0]) | skip)
   have H' := Aside0.mk H
   clear H
   go_wp2
   repeat (go_quiet (fail); try go_wp2)
   go_meet
   case rel => exact ⟨_, (true), (by first | rfl | (simp; done) | (simp [*]; done)), H', ⟨by first | omega | exact Nat.le_refl _⟩, ⟨by repeat (first | (with_reducible first | exact HB.out | apply below_alloc | apply pw_below_drewN | apply below_drew1) | exact HB.out)⟩⟩
  ·rw [if_neg c7] at H
   have c7b0 : decide (30 < (l0.length : Int)) = false := decide_eq_false c7
   have c7b1 : decide (30 < l0.length) = false := decide_eq_false (by omega)
   clear c7
   (first | rw [c7b0] | (simp only [i64_w, i32_w]; rw [c7b0]) | skip)
   by_cases c8 : (l1.length : Int) > 30
   ·rw [if_pos c8] at H
    have c8b0 : decide (30 < (l1.length : Int)) = true := decide_eq_true c8
    have c8b1 : decide (30 < l1.length) = true := decide_eq_true (by omega)
    clear c8
    have H' := Aside0.mk H
    clear H
    go_wp2
    repeat (go_quiet (fail); try go_wp2)
    go_meet
    case rel => exact ⟨_, (true), (by first | rfl | (simp; done) | (simp [*]; done)), H', ⟨by first | omega | exact Nat.le_refl _⟩, ⟨by repeat (first | (with_reducible first | exact HB.out | apply below_alloc | apply pw_below_drewN | apply below_drew1) | exact HB.out)⟩⟩
   ·rw [if_neg c8] at H
    have c8b0 : decide (30 < (l1.length : Int)) = false := decide_eq_false c8
    have c8b1 : decide (30 < l1.length) = false := decide_eq_false (by omega)
    clear c8
    have H' := Aside0.mk H
    clear H
    go_wp2
    repeat (go_quiet (fail); try go_wp2)
    go_meet
    case rel => exact ⟨_, (decide ((l2.length : Int) > 30)), (by first | rfl | (simp; done) | (simp [*]; done)), H', ⟨by first | omega | exact Nat.le_refl _⟩, ⟨by repeat (first | (with_reducible first | exact HB.out | apply below_alloc | apply pw_below_drewN | apply below_drew1) | exact HB.out)⟩⟩
 case rest =>
  clear HC5
  try clear c1
  try clear c2
  try clear p2
  try clear c5
  try clear c7
  try clear c7b0
  try clear c7b1
  try clear c8
  try clear c8b0
  try clear c8b1
  obtain ⟨kq, x23_4, rfl, HA, HJ4, HB⟩ := hcut
  cases kq with
  | zero => exact absurd HA.out (by simp [grapevinelaw08_AlignWhole.j0])
  | succ kj4 =>
   have H := HA.out
   clear HA
   simp only [grapevinelaw08_AlignWhole.j0] at H
   by_cases c9 : x23_4 = true
   ·subst c9
    have H1 : (some t114) = some r := by rw [if_pos rfl] at H; exact H
    clear H
    have H := H1
    clear H1
    obtain rfl := Option.some.inj H
    go_wp2
    repeat (go_quiet (fail); try go_wp2)
    go_ret
    exact ⟨by first | rfl | (simp [errW_none, errW_some] <;> rfl) | (simp [*, errW_none, errW_some] <;> rfl), by repeat (first | (with_reducible first | exact HB.out | apply below_alloc | apply pw_below_drewN | apply below_drew1) | exact HB.out)⟩
   ·replace c9 := Bool.eq_false_iff.mpr c9
    subst c9
    have H1 : ((align_Regions.f l0 l1 l2).bind fun t115 => (grapevinelaw08_AlignWhole.l0 kj4 l0 l1 l2 t114 t115 0)) = some r := by rw [if_neg (show ¬ (false = true) by decide)] at H; exact H
    clear H
    have H := H1
    clear H1
    replace H := Option.bind_eq_some_iff.mp H
    obtain ⟨t115, A100, H⟩ := H
    replace H : (grapevinelaw08_AlignWhole.l0 kj4 l0 l1 l2 t114 t115 0) = some r := H
    have A10 := Aside0.mk A100
    clear A100
    have H' := Aside0.mk H
    clear H
    go_wp2_with (first | (go_at_call 9; (with_reducible refine (align_Regions.calls _ _ l0 _ _ l1 _ _ l2 t115 _ ?side1 ?side2 ?side3 ?side4 ?side5 ?side6 A10.out).mono ?_); (case side1 => repeat (first | exact (Kd.C_below HR0.out HB.out) | (with_reducible refine Kd.C_alloc ?_ _) | (with_reducible refine Kd.C_drewN ?_ _) | (with_reducible refine Kd.C_drew ?_))); (case side2 => exact HC0.out); (case side3 => repeat (first | exact (Kd.C_below HR1.out HB.out) | (with_reducible refine Kd.C_alloc ?_ _) | (with_reducible refine Kd.C_drewN ?_ _) | (with_reducible refine Kd.C_drew ?_))); (case side4 => exact HC1.out); (case side5 => repeat (first | exact (Kd.C_below HR2.out HB.out) | (with_reducible refine Kd.C_alloc ?_ _) | (with_reducible refine Kd.C_drewN ?_ _) | (with_reducible refine Kd.C_drew ?_))); (case side6 => exact HC2.out); rintro e w11 ⟨v116, rfl, ho0, hb⟩; have n0_ := Aside0.mk (Kd.R_lower ho0 (below_size (by repeat (first | (with_reducible first | exact HB.out | apply below_alloc | apply pw_below_drewN | apply below_drew1) | exact HB.out)))); have n1_ := Aside0.mk (below_step (by repeat (first | (with_reducible first | exact HB.out | apply below_alloc | apply pw_below_drewN | apply below_drew1) | exact HB.out)) hb); clear HB; have HO117 := n0_; have HB := n1_; clear n0_ n1_; (try clear hb); (try clear hb2); (try clear hk); (try clear hi); (try clear ho0)))
    repeat (go_quiet (first | (go_at_call 9; (with_reducible refine (align_Regions.calls _ _ l0 _ _ l1 _ _ l2 t115 _ ?side1 ?side2 ?side3 ?side4 ?side5 ?side6 A10.out).mono ?_); (case side1 => repeat (first | exact (Kd.C_below HR0.out HB.out) | (with_reducible refine Kd.C_alloc ?_ _) | (with_reducible refine Kd.C_drewN ?_ _) | (with_reducible refine Kd.C_drew ?_))); (case side2 => exact HC0.out); (case side3 => repeat (first | exact (Kd.C_below HR1.out HB.out) | (with_reducible refine Kd.C_alloc ?_ _) | (with_reducible refine Kd.C_drewN ?_ _) | (with_reducible refine Kd.C_drew ?_))); (case side4 => exact HC1.out); (case side5 => repeat (first | exact (Kd.C_below HR2.out HB.out) | (with_reducible refine Kd.C_alloc ?_ _) | (with_reducible refine Kd.C_drewN ?_ _) | (with_reducible refine Kd.C_drew ?_))); (case side6 => exact HC2.out); rintro e w11 ⟨v116, rfl, ho0, hb⟩; have n0_ := Aside0.mk (Kd.R_lower ho0 (below_size (by repeat (first | (with_reducible first | exact HB.out | apply below_alloc | apply pw_below_drewN | apply below_drew1) | exact HB.out)))); have n1_ := Aside0.mk (below_step (by repeat (first | (with_reducible first | exact HB.out | apply below_alloc | apply pw_below_drewN | apply below_drew1) | exact HB.out)) hb); clear HB; have HO117 := n0_; have HB := n1_; clear n0_ n1_; (try clear hb); (try clear hb2); (try clear hk); (try clear hi); (try clear ho0))); try go_wp2_with (first | (go_at_call 9; (with_reducible refine (align_Regions.calls _ _ l0 _ _ l1 _ _ l2 t115 _ ?side1 ?side2 ?side3 ?side4 ?side5 ?side6 A10.out).mono ?_); (case side1 => repeat (first | exact (Kd.C_below HR0.out HB.out) | (with_reducible refine Kd.C_alloc ?_ _) | (with_reducible refine Kd.C_drewN ?_ _) | (with_reducible refine Kd.C_drew ?_))); (case side2 => exact HC0.out); (case side3 => repeat (first | exact (Kd.C_below HR1.out HB.out) | (with_reducible refine Kd.C_alloc ?_ _) | (with_reducible refine Kd.C_drewN ?_ _) | (with_reducible refine Kd.C_drew ?_))); (case side4 => exact HC1.out); (case side5 => repeat (first | exact (Kd.C_below HR2.out HB.out) | (with_reducible refine Kd.C_alloc ?_ _) | (with_reducible refine Kd.C_drewN ?_ _) | (with_reducible refine Kd.C_drew ?_))); (case side6 => exact HC2.out); rintro e w11 ⟨v116, rfl, ho0, hb⟩; have n0_ := Aside0.mk (Kd.R_lower ho0 (below_size (by repeat (first | (with_reducible first | exact HB.out | apply below_alloc | apply pw_below_drewN | apply below_drew1) | exact HB.out)))); have n1_ := Aside0.mk (below_step (by repeat (first | (with_reducible first | exact HB.out | apply below_alloc | apply pw_below_drewN | apply below_drew1) | exact HB.out)) hb); clear HB; have HO117 := n0_; have HB := n1_; clear n0_ n1_; (try clear hb); (try clear hb2); (try clear hk); (try clear hi); (try clear ho0))))
    go_loopg [9] kj4 (fun kq v9 w' => ∃ (x9_2 : Int), v9 = .int .i64 x9_2 ∧ Aside0 (grapevinelaw08_AlignWhole.l0 kq l0 l1 l2 t114 t115 x9_2 = some r) ∧ Aside0 (kq ≤ kj4) ∧ Aside0 (Kd.R k32 32 w' w.heap.size (fun _ => True) v116 t115) ∧ Aside0 (Below w.heap.size w w'))
    case atStart => exact ⟨(0), (by first | rfl | (simp; done) | (simp [*]; done)), H', ⟨Nat.le_refl _⟩, ⟨by (with_reducible repeat (first | apply Kd.R_alloc | apply Kd.R_drewN | apply Kd.R_drew)); exact HO117.out⟩, ⟨by repeat (first | (with_reducible first | exact HB.out | apply below_alloc | apply pw_below_drewN | apply below_drew1) | exact HB.out)⟩⟩
    case round =>
     clear H'
     try clear c1
     try clear c2
     try clear p2
     try clear c5
     try clear c7
     try clear c7b0
     try clear c7b1
     try clear c8
     try clear c8b0
     try clear c8b1
     try clear c9
     try clear p2
     obtain ⟨x9_2, rfl, HA, HK2, HO_8, HB⟩ := hrel
     cases gk with
     | zero => exact absurd HA.out (by simp [grapevinelaw08_AlignWhole.l0])
     | succ k2 =>
      have H := HA.out
      clear HA
      simp only [grapevinelaw08_AlignWhole.l0] at H
      by_cases c12 : x9_2 < (t115.length : Int)
      ·rw [if_pos c12] at H
       have c12b0 : decide (x9_2 < (t115.length : Int)) = true := decide_eq_true c12
       clear c12
       have HC13 := Aside0.mk H
       clear H
       obtain ⟨Ao14, co14, eo14⟩ := Kd.R_slice HO_8.out
       subst eo14
       go_upto_region 8 with (fail)
       repeat (go_quiet (fail); go_upto_region 8 with (fail))
       go_cut [52] (fun v52 wc => ∃ (kq : Nat) (x52_12 : Bool), v52 = .bool x52_12 ∧ Aside0 (grapevinelaw08_AlignWhole.j2 kq l0 l1 l2 t114 t115 x9_2 x52_12 = some r) ∧ Aside0 (kq ≤ k2) ∧ Aside0 (Kd.R k32 32 wc w.heap.size (fun _ => True) (.slice Ao14 t115.length co14) t115) ∧ Aside0 (Below w.heap.size w wc))
       case first =>
        have H := HC13.out
        clear HC13
        by_cases c15 : x9_2 > 0
        ·rw [if_pos c15] at H
         have c15b0 : decide (0 < x9_2) = true := decide_eq_true c15
         clear c15
         (first | rw [c15b0] | (simp only [i64_w, i32_w]; rw [c15b0]) | skip)
         by_cases c16 : 0 ≤ x9_2
         ·rw [if_pos c16] at H
          have c16b0 : decide (0 ≤ x9_2) = true := decide_eq_true c16
          clear c16
          obtain ⟨ji17, hji17⟩ : ∃ j_ : Int, (wrap64 (x9_2 - 1)) = j_ := ⟨_, rfl⟩
          replace H : (if 0 ≤ (ji17) then (if (ji17) < (t115.length : Int) then (grapevinelaw08_AlignWhole.j2 k2 l0 l1 l2 t114 t115 x9_2 ((((rd_T32 t115 x9_2).f0) == 0) == (((rd_T32 t115 (ji17)).f0) == 0))) else (none)) else (none)) = some r := by first | (rw [hji17] at H; exact H) | (simp only [hji17] at H ⊢; exact H)
          have hji17w : (IntKind.i64.wrap (x9_2 - 1)) = ji17 := (i64_w _).trans hji17
          by_cases c18 : 0 ≤ (ji17)
          ·rw [if_pos c18] at H
           have c18b0 : decide (0 ≤ (ji17)) = true := decide_eq_true c18
           clear c18
           by_cases c19 : (ji17) < (t115.length : Int)
           ·rw [if_pos c19] at H
            have c19b0 : decide ((ji17) < (t115.length : Int)) = true := decide_eq_true c19
            clear c19
            have H' := Aside0.mk H
            clear H
            have p119 : 0 ≤ (x9_2 : Int) := of_decide_eq_true (by first | (with_reducible assumption) | assumption)
            have q119 : x9_2 < (t115.length : Int) := of_decide_eq_true (by first | (with_reducible assumption) | assumption)
            obtain ⟨ad119, e119, hx119_0, hx119_1, hx119_2, hx119_3, hx119_4, hx119_5, hx119_6⟩ := at_T32 (Kd.R_reads' HO_8.out).2.2 x9_2 p119 q119
            cases e119
            replace p119 := eq_true p119
            replace q119 := eq_true q119
            have p120 : 0 ≤ ((ji17) : Int) := of_decide_eq_true (by first | (with_reducible assumption) | assumption)
            have q120 : (ji17) < (t115.length : Int) := of_decide_eq_true (by first | (with_reducible assumption) | assumption)
            obtain ⟨ad120, e120, hx120_0, hx120_1, hx120_2, hx120_3, hx120_4, hx120_5, hx120_6⟩ := at_T32 (Kd.R_reads' HO_8.out).2.2 (ji17) p120 q120
            obtain rfl : ad119 = ad120 := (by injection e120)
            replace p120 := eq_true p120
            replace q120 := eq_true q120
            go_wp2
            repeat (go_quiet (fail); try go_wp2)
            go_meet
            case rel => exact ⟨_, (((((rd_T32 t115 x9_2).f0) == 0) == (((rd_T32 t115 (ji17)).f0) == 0))), (by first | rfl | (simp; done) | (simp only [← hji17] <;> (first | rfl | simp)) | (simp [*]; done)), H', ⟨by have := HJ4.out; have := HK2.out; first | omega | exact Nat.le_refl _⟩, ⟨by (with_reducible repeat (first | apply Kd.R_alloc | apply Kd.R_drewN | apply Kd.R_drew)); exact HO_8.out⟩, ⟨by repeat (first | (with_reducible first | exact HB.out | apply below_alloc | apply pw_below_drewN | apply below_drew1) | exact HB.out)⟩⟩
           ·rw [if_neg c19] at H
            exact absurd H (by simp)
          ·rw [if_neg c18] at H
           exact absurd H (by simp)
         ·rw [if_neg c16] at H
          exact absurd H (by simp)
        ·rw [if_neg c15] at H
         have c15b0 : decide (0 < x9_2) = false := decide_eq_false c15
         clear c15
         (first | rw [c15b0] | (simp only [i64_w, i32_w]; rw [c15b0]) | skip)
         have H' := Aside0.mk H
         clear H
         go_wp2
         repeat (go_quiet (fail); try go_wp2)
         go_meet
         case rel => exact ⟨_, (false), (by first | rfl | (simp; done) | (simp [*]; done)), H', ⟨by have := HJ4.out; have := HK2.out; first | omega | exact Nat.le_refl _⟩, ⟨by (with_reducible repeat (first | apply Kd.R_alloc | apply Kd.R_drewN | apply Kd.R_drew)); exact HO_8.out⟩, ⟨by repeat (first | (with_reducible first | exact HB.out | apply below_alloc | apply pw_below_drewN | apply below_drew1) | exact HB.out)⟩⟩
       case rest =>
        clear HC13
        try clear c1
        try clear p1
        try clear q1
        try clear hx1
        try clear c2
        try clear p2
        try clear c5
        try clear p6
        try clear c7
        try clear c7b0
        try clear c7b1
        try clear c8
        try clear c8b0
        try clear c8b1
        try clear c9
        try clear p11
        try clear q11
        try clear hx11
        try clear c12
        try clear c12b0
        try clear p12
        try clear q12
        try clear hx12
        try clear c15
        try clear c15b0
        try clear c16
        try clear c16b0
        try clear c18
        try clear c18b0
        try clear c19
        try clear c19b0
        try clear hx119_0
        try clear hx119_1
        try clear hx119_2
        try clear hx119_3
        try clear hx119_4
        try clear hx119_5
        try clear hx119_6
        try clear hx120_0
        try clear hx120_1
        try clear hx120_2
        try clear hx120_3
        try clear hx120_4
        try clear hx120_5
        try clear hx120_6
        try clear p119
        try clear p120
        try clear p2
        try clear q119
        try clear q120
        obtain ⟨kq, x52_12, rfl, HA, HJ12, HO_8, HB⟩ := hcut
        cases kq with
        | zero => exact absurd HA.out (by simp [grapevinelaw08_AlignWhole.j2])
        | succ kj12 =>
         have H := HA.out
         clear HA
         simp only [grapevinelaw08_AlignWhole.j2] at H
         by_cases c20 : x52_12 = true
         ·subst c20
          have H1 : (some false) = some r := by rw [if_pos rfl] at H; exact H
          clear H
          have H := H1
          clear H1
          exact absurd (H.trans (congrArg some hrt_.out)) (by simp)
         ·replace c20 := Bool.eq_false_iff.mpr c20
          subst c20
          have H1 : (if 0 ≤ x9_2 then (if x9_2 < (t115.length : Int) then (if (wrap64 ((wrap64 (((rd_T32 t115 x9_2).f1.f1) + ((rd_T32 t115 x9_2).f2.f1))) + ((rd_T32 t115 x9_2).f3.f1))) < 1 then (some false) else (grapevinelaw08_AlignWhole.l0 kj12 l0 l1 l2 t114 t115 (wrap64 (x9_2 + 1)))) else (none)) else (none)) = some r := by rw [if_neg (show ¬ (false = true) by decide)] at H; exact H
          clear H
          have H := H1
          clear H1
          by_cases c21 : 0 ≤ x9_2
          ·rw [if_pos c21] at H
           have c21b0 : decide (0 ≤ x9_2) = true := decide_eq_true c21
           clear c21
           by_cases c22 : x9_2 < (t115.length : Int)
           ·rw [if_pos c22] at H
            have c22b0 : decide (x9_2 < (t115.length : Int)) = true := decide_eq_true c22
            clear c22
            by_cases c23 : (wrap64 ((wrap64 (((rd_T32 t115 x9_2).f1.f1) + ((rd_T32 t115 x9_2).f2.f1))) + ((rd_T32 t115 x9_2).f3.f1))) < 1
            ·rw [if_pos c23] at H
             have c23b0 : decide ((wrap64 ((wrap64 (((rd_T32 t115 x9_2).f1.f1) + ((rd_T32 t115 x9_2).f2.f1))) + ((rd_T32 t115 x9_2).f3.f1))) < 1) = true := decide_eq_true c23
             clear c23
             exact absurd (H.trans (congrArg some hrt_.out)) (by simp)
            ·rw [if_neg c23] at H
             have c23b0 : decide ((wrap64 ((wrap64 (((rd_T32 t115 x9_2).f1.f1) + ((rd_T32 t115 x9_2).f2.f1))) + ((rd_T32 t115 x9_2).f3.f1))) < 1) = false := decide_eq_false c23
             clear c23
             have H' := Aside0.mk H
             clear H
             have p121 : 0 ≤ (x9_2 : Int) := of_decide_eq_true (by first | (with_reducible assumption) | assumption)
             have q121 : x9_2 < (t115.length : Int) := of_decide_eq_true (by first | (with_reducible assumption) | assumption)
             obtain ⟨ad121, e121, hx121_0, hx121_1, hx121_2, hx121_3, hx121_4, hx121_5, hx121_6⟩ := at_T32 (Kd.R_reads' HO_8.out).2.2 x9_2 p121 q121
             cases e121
             replace p121 := eq_true p121
             replace q121 := eq_true q121
             have p122 : 0 ≤ (x9_2 : Int) := of_decide_eq_true (by first | (with_reducible assumption) | assumption)
             have q122 : x9_2 < (t115.length : Int) := of_decide_eq_true (by first | (with_reducible assumption) | assumption)
             obtain ⟨ad122, e122, hx122_0, hx122_1, hx122_2, hx122_3, hx122_4, hx122_5, hx122_6⟩ := at_T32 (Kd.R_reads' HO_8.out).2.2 x9_2 p122 q122
             obtain rfl : ad121 = ad122 := (by injection e122)
             replace p122 := eq_true p122
             replace q122 := eq_true q122
             have p123 : 0 ≤ (x9_2 : Int) := of_decide_eq_true (by first | (with_reducible assumption) | assumption)
             have q123 : x9_2 < (t115.length : Int) := of_decide_eq_true (by first | (with_reducible assumption) | assumption)
             obtain ⟨ad123, e123, hx123_0, hx123_1, hx123_2, hx123_3, hx123_4, hx123_5, hx123_6⟩ := at_T32 (Kd.R_reads' HO_8.out).2.2 x9_2 p123 q123
             obtain rfl : ad121 = ad123 := (by injection e123)
             replace p123 := eq_true p123
             replace q123 := eq_true q123
             go_wp2
             repeat (go_quiet (fail); try go_wp2)
             go_roundg kj12
             case measure => have := HJ4.out; have := HK2.out; have := HJ12.out; omega
             case rel => exact ⟨(wrap64 (x9_2 + 1)), (by first | rfl | (simp; done) | (simp [*]; done)), H', ⟨by have := HJ4.out; have := HK2.out; have := HJ12.out; omega⟩, ⟨by (with_reducible repeat (first | apply Kd.R_alloc | apply Kd.R_drewN | apply Kd.R_drew)); exact HO_8.out⟩, ⟨by repeat (first | (with_reducible first | exact HB.out | apply below_alloc | apply pw_below_drewN | apply below_drew1) | exact HB.out)⟩⟩
           ·rw [if_neg c22] at H
            exact absurd H (by simp)
          ·rw [if_neg c21] at H
           exact absurd H (by simp)
      ·rw [if_neg c12] at H
       have c12b0 : decide (x9_2 < (t115.length : Int)) = false := decide_eq_false c12
       clear c12
       by_cases c24 : t114 = true
       ·subst c24
        have H1 : ((align_Right.f t115 l0 l1 l2).bind fun t118 => (some t118)) = some r := by rw [if_pos rfl] at H; exact H
        clear H
        have H := H1
        clear H1
        replace H := Option.bind_eq_some_iff.mp H
        obtain ⟨t118, A250, H⟩ := H
        replace H : (some t118) = some r := H
        have A25 := Aside0.mk A250
        clear A250
        obtain rfl := Option.some.inj H
        obtain ⟨Ao26, co26, eo26⟩ := Kd.R_slice HO_8.out
        subst eo26
        go_wp2_with (first | (go_at_call 11; (with_reducible refine (align_Right.calls _ _ t115 _ _ l0 _ _ l1 _ _ l2 t118 _ ?side1 ?side2 ?side3 ?side4 ?side5 ?side6 ?side7 ?side8 A25.out).mono ?_); (case side1 => repeat (first | exact (Kd.R_reads' HO_8.out).2.2 | (with_reducible refine Kd.C_alloc ?_ _) | (with_reducible refine Kd.C_drewN ?_ _) | (with_reducible refine Kd.C_drew ?_))); (case side2 => exact (Kd.R_reads' HO_8.out).2.1); (case side3 => repeat (first | exact (Kd.C_below HR0.out HB.out) | (with_reducible refine Kd.C_alloc ?_ _) | (with_reducible refine Kd.C_drewN ?_ _) | (with_reducible refine Kd.C_drew ?_))); (case side4 => exact HC0.out); (case side5 => repeat (first | exact (Kd.C_below HR1.out HB.out) | (with_reducible refine Kd.C_alloc ?_ _) | (with_reducible refine Kd.C_drewN ?_ _) | (with_reducible refine Kd.C_drew ?_))); (case side6 => exact HC1.out); (case side7 => repeat (first | exact (Kd.C_below HR2.out HB.out) | (with_reducible refine Kd.C_alloc ?_ _) | (with_reducible refine Kd.C_drewN ?_ _) | (with_reducible refine Kd.C_drew ?_))); (case side8 => exact HC2.out); rintro e w27 ⟨rfl, hb⟩; have n0_ := Aside0.mk (Kd.R_below (by (with_reducible repeat (first | apply Kd.R_alloc | apply Kd.R_drewN | apply Kd.R_drew)); exact HO_8.out) hb); have n1_ := Aside0.mk (below_step (by repeat (first | (with_reducible first | exact HB.out | apply below_alloc | apply pw_below_drewN | apply below_drew1) | exact HB.out)) hb); clear HO_8; clear HB; have HO_8 := n0_; have HB := n1_; clear n0_ n1_; (try clear hb); (try clear hb2); (try clear hk); (try clear hi)))
        repeat (go_quiet (first | (go_at_call 11; (with_reducible refine (align_Right.calls _ _ t115 _ _ l0 _ _ l1 _ _ l2 t118 _ ?side1 ?side2 ?side3 ?side4 ?side5 ?side6 ?side7 ?side8 A25.out).mono ?_); (case side1 => repeat (first | exact (Kd.R_reads' HO_8.out).2.2 | (with_reducible refine Kd.C_alloc ?_ _) | (with_reducible refine Kd.C_drewN ?_ _) | (with_reducible refine Kd.C_drew ?_))); (case side2 => exact (Kd.R_reads' HO_8.out).2.1); (case side3 => repeat (first | exact (Kd.C_below HR0.out HB.out) | (with_reducible refine Kd.C_alloc ?_ _) | (with_reducible refine Kd.C_drewN ?_ _) | (with_reducible refine Kd.C_drew ?_))); (case side4 => exact HC0.out); (case side5 => repeat (first | exact (Kd.C_below HR1.out HB.out) | (with_reducible refine Kd.C_alloc ?_ _) | (with_reducible refine Kd.C_drewN ?_ _) | (with_reducible refine Kd.C_drew ?_))); (case side6 => exact HC1.out); (case side7 => repeat (first | exact (Kd.C_below HR2.out HB.out) | (with_reducible refine Kd.C_alloc ?_ _) | (with_reducible refine Kd.C_drewN ?_ _) | (with_reducible refine Kd.C_drew ?_))); (case side8 => exact HC2.out); rintro e w27 ⟨rfl, hb⟩; have n0_ := Aside0.mk (Kd.R_below (by (with_reducible repeat (first | apply Kd.R_alloc | apply Kd.R_drewN | apply Kd.R_drew)); exact HO_8.out) hb); have n1_ := Aside0.mk (below_step (by repeat (first | (with_reducible first | exact HB.out | apply below_alloc | apply pw_below_drewN | apply below_drew1) | exact HB.out)) hb); clear HO_8; clear HB; have HO_8 := n0_; have HB := n1_; clear n0_ n1_; (try clear hb); (try clear hb2); (try clear hk); (try clear hi))); try go_wp2_with (first | (go_at_call 11; (with_reducible refine (align_Right.calls _ _ t115 _ _ l0 _ _ l1 _ _ l2 t118 _ ?side1 ?side2 ?side3 ?side4 ?side5 ?side6 ?side7 ?side8 A25.out).mono ?_); (case side1 => repeat (first | exact (Kd.R_reads' HO_8.out).2.2 | (with_reducible refine Kd.C_alloc ?_ _) | (with_reducible refine Kd.C_drewN ?_ _) | (with_reducible refine Kd.C_drew ?_))); (case side2 => exact (Kd.R_reads' HO_8.out).2.1); (case side3 => repeat (first | exact (Kd.C_below HR0.out HB.out) | (with_reducible refine Kd.C_alloc ?_ _) | (with_reducible refine Kd.C_drewN ?_ _) | (with_reducible refine Kd.C_drew ?_))); (case side4 => exact HC0.out); (case side5 => repeat (first | exact (Kd.C_below HR1.out HB.out) | (with_reducible refine Kd.C_alloc ?_ _) | (with_reducible refine Kd.C_drewN ?_ _) | (with_reducible refine Kd.C_drew ?_))); (case side6 => exact HC1.out); (case side7 => repeat (first | exact (Kd.C_below HR2.out HB.out) | (with_reducible refine Kd.C_alloc ?_ _) | (with_reducible refine Kd.C_drewN ?_ _) | (with_reducible refine Kd.C_drew ?_))); (case side8 => exact HC2.out); rintro e w27 ⟨rfl, hb⟩; have n0_ := Aside0.mk (Kd.R_below (by (with_reducible repeat (first | apply Kd.R_alloc | apply Kd.R_drewN | apply Kd.R_drew)); exact HO_8.out) hb); have n1_ := Aside0.mk (below_step (by repeat (first | (with_reducible first | exact HB.out | apply below_alloc | apply pw_below_drewN | apply below_drew1) | exact HB.out)) hb); clear HO_8; clear HB; have HO_8 := n0_; have HB := n1_; clear n0_ n1_; (try clear hb); (try clear hb2); (try clear hk); (try clear hi))))
        go_ret
        exact ⟨by first | rfl | (simp [errW_none, errW_some] <;> rfl) | (simp [*, errW_none, errW_some] <;> rfl), by repeat (first | (with_reducible first | exact HB.out | apply below_alloc | apply pw_below_drewN | apply below_drew1) | exact HB.out)⟩
       ·replace c24 := Bool.eq_false_iff.mpr c24
        subst c24
        have H1 : (some false) = some r := by rw [if_neg (show ¬ (false = true) by decide)] at H; exact H
        clear H
        have H := H1
        clear H1
        exact absurd (H.trans (congrArg some hrt_.out)) (by simp)

end Go.Proofs.Ytnmphfelebkaiaa.Pr
-- shrunk
/-
The law AlignWhole answers true: the plain part.
-/
namespace Go.Proofs.Ytnmphfelebkaiaa.Pr
open Go.RowKit Go.Proofs.YtnmphfelebkaiaaW.PrintWords Go.Proofs.YtnmphfelebkaiaaW.PrintLast Go.Proofs.YtnmphfelebkaiaaW.PrintMore
set_option linter.unusedVariables false
set_option linter.unusedSimpArgs false
theorem rdR_at {l : List S32} {i : Nat} (h : i < l.length) : rd_T32 l (i : Int) = l[i] := by
 rw [rd_T32, Int.toNat_natCast, List.getD_eq_getElem?_getD, List.getElem?_eq_getElem h, Option.getD_some]
theorem alt_at : ∀ (l : List S32) (p : Option Bool), altFrom p l → ∀ i, (h : i + 1 < l.length) → (l[i + 1].f0 == 0) ≠ (l[i].f0 == 0)
 | r :: [], p, h, i, hi => by simp at hi
 | r :: r2 :: l, p, h, 0, hi => by
  have := h.2.1
  simp only [List.getElem_cons_zero, List.getElem_cons_succ]
  intro e
  rw [e] at this
  exact this rfl
 | r :: r2 :: l, p, h, i + 1, hi => by
  have := alt_at (r2 :: l) _ h.2 i (by simpa using hi)
  simpa using this
theorem Whole_l0 (o a b : List ByteArray) (L : List S32) (hn : L.length ≤ 1099511627776) (ho : o.length ≤ 1099511627776) (ha : a.length ≤ 1099511627776) (hb : b.length ≤ 1099511627776) (hr : rightR o a b 0 0 0 L = true) (hal : altFrom none L) (hp : ∀ r ∈ L, PosR r) : ∀ d i, L.length - i = d → i ≤ L.length →
  Ev (fun k => grapevinelaw08_AlignWhole.l0 k o a b true L (i : Int)) true := by
 intro d
 induction d with
 | zero =>
  intro i hd hi
  refine Ev.step (fun _ => grapevinelaw08_AlignWhole.l0.eq_2 ..) ?_
  simp only [if_neg (show ¬ (i : Int) < (L.length : Int) by omega), if_true]
  refine Ev.bind (a := true) (Ev.none_of fun _ => ?_) (Ev.now _)
  rw [align_Right.f, if_pos ⟨hn, ho, ha, hb⟩, hr]
 | succ d ih =>
  intro i hd hi
  have h0 : i < L.length := by omega
  have hq := hp _ (List.getElem_mem h0)
  have key : Ev (fun k => grapevinelaw08_AlignWhole.j2 k o a b true L (i : Int) false) true := by
   refine Ev.step (fun _ => grapevinelaw08_AlignWhole.j2.eq_2 ..) ?_
   obtain ⟨q1, q2, q3, q4, q5, q6, q7⟩ := hq
   simp only [Bool.false_eq_true, if_false, if_pos (show 0 ≤ (i : Int) by omega), if_pos (show (i : Int) < (L.length : Int) by omega), rdR_at h0]
   rw [w_in (x := L[i].f1.f1 + L[i].f2.f1) (by omega) (by omega), w_in (by omega) (by omega)]
   simp only [if_neg (show ¬ L[i].f1.f1 + L[i].f2.f1 + L[i].f3.f1 < 1 by omega), w_succ h0 (show L.length ≤ 4611686018427387904 by omega)]
   exact ih (i + 1) (by omega) (by omega)
  refine Ev.step (fun _ => grapevinelaw08_AlignWhole.l0.eq_2 ..) ?_
  simp only [if_pos (show (i : Int) < (L.length : Int) by omega)]
  by_cases hz : i = 0
  ·subst hz
   simp only [if_neg (show ¬ ((0 : Nat) : Int) > 0 by omega)]
   exact key
  ·obtain ⟨j, rfl⟩ : ∃ j, i = j + 1 := ⟨i - 1, by omega⟩
   have hw : wrap64 (((j + 1 : Nat) : Int) - 1) = (j : Int) := by rw [w_in (by omega) (by omega)]; omega
   simp only [if_pos (show ((j + 1 : Nat) : Int) > 0 by omega), if_pos (show 0 ≤ ((j + 1 : Nat) : Int) by omega), hw, if_pos (show 0 ≤ (j : Int) by omega), if_pos (show (j : Int) < (L.length : Int) by omega), rdR_at h0, rdR_at (show j < L.length by omega)]
   have hne := alt_at L none hal j h0
   rw [show ((L[j + 1].f0 == 0) == (L[j].f0 == 0)) = false from beq_eq_false_iff_ne.2 hne]
   exact key
theorem AlignWhole_pure (o a b : List ByteArray) (yo : o.length * 16 ≤ 140737488351232) (zo : ∀ s ∈ o, s.size ≤ 140737488351232) (ya : a.length * 16 ≤ 140737488351232) (za : ∀ s ∈ a, s.size ≤ 140737488351232) (yb : b.length * 16 ≤ 140737488351232) (zb : ∀ s ∈ b, s.size ≤ 140737488351232) :
  ∃ k, grapevinelaw08_AlignWhole.f k o a b = some true := by
 refine Ev.rounds ?_
 unfold grapevinelaw08_AlignWhole.f
 have j0t : Ev (fun k => grapevinelaw08_AlignWhole.j0 k o a b true true) true := by
  refine Ev.step (fun _ => grapevinelaw08_AlignWhole.j0.eq_2 ..) ?_
  exact Ev.now _
 refine Ev.bind (a := true) (Ev.none_of fun _ => rfl) ?_
 by_cases c1 : (o.length : Int) > 30
 ·simp only [if_pos c1]
  exact j0t
 simp only [if_neg c1]
 by_cases c2 : (a.length : Int) > 30
 ·simp only [if_pos c2]
  exact j0t
 simp only [if_neg c2]
 by_cases c3 : (b.length : Int) > 30
 ·rw [decide_eq_true c3]
  exact j0t
 rw [decide_eq_false c3]
 refine Ev.step (fun _ => grapevinelaw08_AlignWhole.j0.eq_2 ..) ?_
 simp only [Bool.false_eq_true, if_false]
 refine Ev.bind (Ev.none_of fun _ => regions_some o a b (by omega) (by omega) (by omega)) ?_
 obtain ⟨h1, h2, h3⟩ := regions_list o a b (by omega) (by omega) (by omega)
 have hlen : (regionsP o a b).length ≤ 1099511627776 := by
  have hi := inv_start o a b
  obtain ⟨_, n0⟩ := between_b o a (by omega) (by omega)
  obtain ⟨_, n1⟩ := between_b o b (by omega) (by omega)
  have hf := (run_end (o := o) (a := a) (b := b) (by omega) (by omega) (by omega) _ _ _ _ _ _ _ rfl hi (by simp; omega)).1.len
  rw [regionsP, regionsR, endR]
  split
  ·rw [List.length_append, List.length_singleton]; omega
  ·omega
 exact Whole_l0 o a b _ hlen (by omega) (by omega) (by omega) h1 h2 h3 _ 0 rfl (by omega)
end Go.Proofs.Ytnmphfelebkaiaa.Pr
-- shrunk
/-
Arguments that are slices of whatever kind, opened, with the sizes of all that is read behind them. General: no program in sight.
-/
namespace Go.Proofs.Ytnmphfelebkaiaa.Pr
open Go.RowKit Go.Proofs.YtnmphfelebkaiaaW.PrintWords Go.Proofs.YtnmphfelebkaiaaW.PrintLast Go.Proofs.YtnmphfelebkaiaaW.PrintMore
open Go.ChangeShapes Go.WideShapes Go.Deep
def Rz (P : Program) {α : Type} (d : Kd α) (S : α → Prop) (t : TypeId) : Prop :=
 ∀ (H : Type) (enc : TypeId × Value → H) (w : World) (base : Nat) (spare : Nat → Bool) (held : Bool) (fuel : Nat) (cs : List Value) (x : DataW H × List MemPlace),
  DataW.trod enc P w base spare held fuel t cs = some x → (∀ n ∈ x.1.weights P t, n ≤ 140737488351232) → ∃ y, d.K w y cs ∧ S y
theorem Rz.int {P : Program} {t : TypeId} {k : IntKind} (hu : P.underlying t = some (.int k)) : Rz P (Kd.int k) (fun n => (Lit.int k n).wf = true) t := fun H enc w base spare held fuel cs x h _ => by
 obtain ⟨n, rfl, _, hw⟩ := DataW.trod_int hu h
 exact ⟨n, rfl, hw⟩
theorem Rz.string {P : Program} {t : TypeId} (hu : P.underlying t = some .string) : Rz P Kd.string (fun s => s.size ≤ 140737488351232) t := fun H enc w base spare held fuel cs x h hz => by
 obtain ⟨s, rfl, rfl, _⟩ := DataW.trod_string hu h
 refine ⟨s, rfl, ?_⟩
 have := hz s.data.toList.length (by simp [DataW.weights])
 simpa using this
theorem weights_mem_all {H : Type} {P : Program} {e : TypeId} : ∀ {l : List (DataW H)} {d : DataW H}, d ∈ l → ∀ n ∈ d.weights P e, n ∈ DataW.weightsAll P e l
 | c :: l, d, hd, n, hn => by
  simp only [DataW.weightsAll, List.mem_append]
  rcases List.mem_cons.1 hd with rfl | hd
  ·exact Or.inl hn
  ·exact Or.inr (weights_mem_all hd n hn)
theorem Rz.slice {P : Program} {α : Type} {d : Kd α} {S : α → Prop} {t e : TypeId} {B : Nat} (hu : P.underlying t = some (.slice e)) (hc : P.cellsOf e = d.sz) (hB : P.bytesOf e = B) (hd : Rz P d S e) :
  Rz P (Kd.slice e d) (fun xs => xs.length * B ≤ 140737488351232 ∧ ∀ y ∈ xs, S y) t := fun H enc w base spare held fuel cs x h hz => by
 rcases open_slice hu h with ⟨rfl, _⟩ | ⟨a, len, cap, m, n, D, Pl, rfl, hb, hl, hm, hmm, rfl, hx⟩
 ·exact ⟨[], ⟨none, 0, rfl, Nat.le_refl _, rfl, by simp, fun h0 => absurd h0 (Nat.lt_irrefl _)⟩, by simp, by simp⟩
 ·have hlm : len ≤ m := by rw [hmm]; split <;> omega
  have hw0 : len * B ≤ 140737488351232 := by
   have h1 := hz ((((List.range len).map D).length + ((List.range (m - len)).map fun j => D (len + j)).length) * P.bytesOf e) (by simp [DataW.weights, hu])
   rw [hB] at h1
   simp only [List.length_map, List.length_range] at h1
   exact Nat.le_trans (Nat.mul_le_mul_right _ (Nat.le_add_right _ _)) h1
  have hw1 : ∀ i, i < len → ∀ q ∈ (D i).weights P e, q ≤ 140737488351232 := fun i hi q hq => by
   refine hz q ?_
   simp only [DataW.weights, hu, List.mem_cons, List.mem_append]
   exact Or.inr (Or.inl (weights_mem_all (List.mem_map.2 ⟨i, List.mem_range.2 hi, rfl⟩) q hq))
  have key : ∀ k, k ≤ len → ∃ xs : List α, xs.length = k ∧ (∀ y ∈ xs, S y) ∧ ∀ j p, xs[j]? = some p → ∃ c, c.length = d.sz ∧ d.K w p c ∧ ∀ i u, c[i]? = some u → w.cell? (a.add (j * d.sz + i)) = some u := by
   intro k
   induction k with
   | zero => exact fun _ => ⟨[], rfl, by simp, fun j p hj => by simp at hj⟩
   | succ k ih =>
    intro hk
    obtain ⟨xs, hxl, hS, hxs⟩ := ih (by omega)
    obtain ⟨cs', h1, h2⟩ := hx k (by omega)
    obtain ⟨y, hy, hSy⟩ := hd H enc w base spare held n cs' _ h2 (hw1 k (by omega))
    obtain ⟨_, hlen, hcell⟩ := World.cells?_some h1
    refine ⟨xs ++ [y], by simp [hxl], fun z hz => ?_, fun j p hj => ?_⟩
    ·rcases List.mem_append.1 hz with hz | hz
     ·exact hS z hz
     ·rw [List.mem_singleton.1 hz]; exact hSy
    by_cases hjk : j < k
    ·rw [List.getElem?_append_left (by omega)] at hj
     exact hxs j p hj
    ·have hj' : j = k := by
      have : j < (xs ++ [y]).length := by
       rcases Nat.lt_or_ge j (xs ++ [y]).length with h | h
       ·exact h
       ·rw [List.getElem?_eq_none h] at hj; cases hj
      simp [hxl] at this; omega
     subst hj'
     rw [List.getElem?_append_right (by omega), hxl, Nat.sub_self] at hj
     obtain rfl := Option.some.inj hj
     refine ⟨cs', by rw [hlen, hc], hy, fun i u hi => ?_⟩
     have hlt : i < cs'.length := by
      rcases Nat.lt_or_ge i cs'.length with h | h
      ·exact h
      ·rw [List.getElem?_eq_none h] at hi; cases hi
     rw [← hc, ← Deep.add_add, hcell i (by omega), hi]
  obtain ⟨xs, rfl, hS, hxs⟩ := key len (Nat.le_refl _)
  exact ⟨xs, ⟨some a, cap, rfl, hl, rfl, by unfold maxLen at hm; omega, fun _ => ⟨a, rfl, hxs⟩⟩, hw0, hS⟩
inductive RzF (P : Program) : {α : Type} → Kd α → (α → Prop) → Nat → List Field → Prop
 | last {α : Type} {d : Kd α} {S : α → Prop} {f : Field} {off : Nat} : f.offset = off → P.cellsOf f.type = d.sz → Rz P d S f.type → RzF P d S off [f]
 | cons {α β : Type} {a : Kd α} {b : Kd β} {S : α → Prop} {U : β → Prop} {f : Field} {fs : List Field} {off : Nat} : f.offset = off → P.cellsOf f.type = a.sz → Rz P a S f.type → RzF P b U (off + a.sz) fs → RzF P (Kd.pair a b) (fun x => S x.1 ∧ U x.2) off (f :: fs)
theorem RzF.read {P : Program} {H : Type} {enc : TypeId × Value → H} {w : World} {base : Nat} {spare : Nat → Bool} {held : Bool} {cs : List Value} {α : Type} {d : Kd α} {S : α → Prop} {off : Nat} {fs : List Field} (h : RzF P d S off fs) :
  (∀ f ∈ fs, ∃ n x, DataW.trod enc P w base spare held n f.type ((cs.drop f.offset).take (P.cellsOf f.type)) = some x ∧ ∀ q ∈ x.1.weights P f.type, q ≤ 140737488351232) → ∃ y, d.K w y ((cs.drop off).take d.sz) ∧ S y := by
 induction h with
 | last ho hc hr =>
  intro hf
  obtain ⟨n, x, hx, hw⟩ := hf _ (List.mem_singleton.2 rfl)
  rw [ho, hc] at hx
  exact hr H enc w base spare held n _ x hx hw
 | @cons α β a b S U f fs off ho hc hr _ ih =>
  intro hf
  obtain ⟨n, x, hx, hw⟩ := hf _ List.mem_cons_self
  rw [ho, hc] at hx
  obtain ⟨y0, h0, s0⟩ := hr H enc w base spare held n _ x hx hw
  obtain ⟨y1, h1, s1⟩ := ih (fun g hg => hf g (List.mem_cons_of_mem _ hg))
  refine ⟨(y0, y1), ⟨_, _, ?_, h0, h1⟩, s0, s1⟩
  show List.take (a.sz + b.sz) _ = _
  rw [List.take_add, List.drop_drop]
theorem Rz.struct {P : Program} {α : Type} {d : Kd α} {S : α → Prop} {t : TypeId} {fs : Array Field} (hu : P.underlying t = some (.struct fs)) (hc : P.cellsOf t = d.sz) (hf : RzF P d S 0 fs.toList) : Rz P d S t := fun H enc w base spare held fuel cs x h hz => by
 obtain ⟨xs, n, _, rfl, hl, hlen, hx⟩ := DataW.trod_struct hu h
 have h2 := hf.read (enc := enc) (w := w) (base := base) (spare := spare) (held := held) (cs := cs) (fun f hm => by
  obtain ⟨i, hi, he⟩ := List.mem_iff_getElem.1 hm
  have h3 := hx i f (by rw [← he]; simp)
  have hi' : i < xs.length := by rw [hlen]; simpa using hi
  rw [List.getElem?_eq_getElem hi'] at h3
  refine ⟨n, _, h3, fun q hq => hz q ?_⟩
  simp only [DataW.weights, hu]
  refine DataW.weights_mem_each (j := i) (t := f.type) (d := xs[i].1) ?_ ?_ q hq
  ·rw [List.getElem?_map, List.getElem?_eq_getElem hi, he]; rfl
  ·rw [List.getElem?_map, List.getElem?_eq_getElem hi']; rfl)
 rw [List.drop_zero, List.take_of_length_le (by omega)] at h2
 exact h2
theorem Rz.iso {P : Program} {α β : Type} {d : Kd α} {S : α → Prop} {f : β → α} {t : TypeId} (h : Rz P d S t) (g : ∀ y, ∃ x, f x = y) : Rz P (Kd.iso d f) (fun x => S (f x)) t := fun H enc w base spare held fuel cs x hx hz => by
 obtain ⟨y, hy, hs⟩ := h H enc w base spare held fuel cs x hx hz
 obtain ⟨z, rfl⟩ := g y
 exact ⟨z, hy, hs⟩
theorem Rz.mono {P : Program} {α : Type} {d : Kd α} {S S' : α → Prop} {t : TypeId} (h : Rz P d S t) (g : ∀ x, S x → S' x) : Rz P d S' t := fun H enc w base spare held fuel cs x hx hz => by
 obtain ⟨y, hy, hs⟩ := h H enc w base spare held fuel cs x hx hz
 exact ⟨y, hy, g y hs⟩
theorem open_rowz {P : Program} {α : Type} {d : Kd α} {S : α → Prop} {t e : TypeId} {B : Nat} {H : Type} {enc : TypeId × Value → H} {w : World} {r : Reach} {b0 base : Nat} {spare : Nat → Bool} {held : Bool} {v : Value} {x : DataW H} {ps : List MemPlace} {ts : List TypeId} {ds : List (DataW H)} {j : Nat}
  (hsz : (DataW.weightsEach P ts ds).all (· ≤ reachBytes) = true) (ht : ts[j]? = some t) (hdj : ds[j]? = some x)
  (hu : P.underlying t = some (.slice e)) (hc : P.cellsOf e = d.sz) (hB : P.bytesOf e = B) (hd : Rz P d S e) (hval : Value.okWide P w r b0 t v) (h : DataW.Trod enc P w base spare held t v x ps) :
  ∃ (A : Option Addr) (c : Nat) (xs : List α), v = .slice A xs.length c ∧ xs.length ≤ c ∧ d.C w A xs.length xs ∧ xs.length * B ≤ 140737488351232 ∧ ∀ y ∈ xs, S y := by
 obtain ⟨a, len, cap, rfl⟩ := okWide_slice hu hval
 obtain ⟨fuel, hf⟩ := h
 obtain ⟨xs, ⟨A, c, hcs, hl, hC⟩, hb, hS⟩ := Rz.slice hu hc hB hd H enc w base spare held fuel _ _ hf (fun n hn => by
  have := List.all_eq_true.1 hsz _ (DataW.weights_mem_each ht hdj n hn)
  have h2 : n ≤ reachBytes := by simpa using this
  exact h2)
 simp [Value.cells] at hcs
 obtain ⟨rfl, rfl, rfl⟩ := hcs
 exact ⟨_, _, xs, rfl, hl, hC, hb, hS⟩
end Go.Proofs.Ytnmphfelebkaiaa.Pr
-- shrunk
/-
The kinds of the lower layers' arguments, with sizes: lists of texts, edits.
-/
namespace Go.Proofs.Ytnmphfelebkaiaa.Pr
open Go.RowKit Go.Proofs.YtnmphfelebkaiaaW.PrintWords Go.Proofs.YtnmphfelebkaiaaW.PrintLast Go.Proofs.YtnmphfelebkaiaaW.PrintMore
theorem rz_string : Rz Try.prog Kd.string (fun s => s.size ≤ 140737488351232) 9 := Rz.string (by kernel_rfl)
end Go.Proofs.Ytnmphfelebkaiaa.Pr
-- shrunk
