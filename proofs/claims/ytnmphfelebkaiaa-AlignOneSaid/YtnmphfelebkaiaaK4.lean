/-
Several plain texts in one.
-/
import Derived.Test.YtnmphfelebkaiaaGAwakeA0
import Derived.Test.YtnmphfelebkaiaaK0
import Derived.Test.YtnmphfelebkaiaaK3
import Derived.Test.YtnmphfelebkaiaaK1
import Derived.Test.YtnmphfelebkaiaaGRegW
import Derived.Deep.Strs
import Derived.SizedLaws
import Derived.ChangeOld
import Derived.Carry
import Derived.Test.YtnmphfelebkaiaaWWords
import Derived.Test.YtnmphfelebkaiaaWMore
import Derived.Test.YtnmphfelebkaiaaWLast
import Derived.KernelRfl
/-
The chapter's example of layer 8: it answers true.
-/
namespace Go.Proofs.Ytnmphfelebkaiaa.Pr
open Go.RowKit Go.Proofs.YtnmphfelebkaiaaW.PrintWords Go.Proofs.YtnmphfelebkaiaaW.PrintLast Go.Proofs.YtnmphfelebkaiaaW.PrintMore
set_option linter.unusedVariables false
set_option linter.unusedSimpArgs false
def exO : List ByteArray := [⟨#[49]⟩, ⟨#[50]⟩, ⟨#[51]⟩]
def exA : List ByteArray := [⟨#[49]⟩, ⟨#[120]⟩, ⟨#[51]⟩]
def exB : List ByteArray := [⟨#[49]⟩, ⟨#[50]⟩, ⟨#[51]⟩, ⟨#[52]⟩]
def exE0 : Ed := ⟨1, 1, [⟨#[120]⟩]⟩
def exE1 : Ed := ⟨3, 0, [⟨#[52]⟩]⟩
theorem ex_between0 : between exO exA = [exE0] := by
 have e : ¬ (⟨#[50]⟩ : ByteArray) = (⟨#[120]⟩ : ByteArray) := by decide
 simp [exO, exA, exE0, between, midEdits, midOf, endOf, frontOf, common, steps, lcsLen, edits, addDel, addIns, opened, edLast, e]
theorem ex_between1 : between exO exB = [exE1] := by
 simp [exO, exB, exE1, between, midEdits, midOf, endOf, frontOf, common, steps, lcsLen, edits, addDel, addIns, opened, edLast]
def exC0 : Cl := ⟨1, 2, 0, 0, true, false⟩
def exC1 : Cl := ⟨3, 3, 0, 1, false, true⟩
theorem ex_ab0 : absorb (startC [exE0] [exE1]) [exE0] [exE1] = (exC0, [], [exE1]) := by
 rw [absorb_0 (by decide)]
 exact absorb_no (c := exC0) (l0 := []) (l1 := [exE1]) (by decide) (by decide)
theorem ex_ab1 : absorb (startC [] [exE1]) [] [exE1] = (exC1, [], []) := by
 rw [absorb_1 (by decide) (by decide)]
 exact absorb_no (c := exC1) (l0 := []) (l1 := []) (by decide) (by decide)
theorem ex_clusters : clusters [exE0] [exE1] = [exC0, exC1] := by
 rw [clusters_cons (by decide), ex_ab0]
 dsimp only
 rw [clusters_cons (by decide), ex_ab1]
 dsimp only
 rw [clusters_nil (by decide)]
def exR : List S32 := [⟨0, ⟨0, 1⟩, ⟨0, 1⟩, ⟨0, 1⟩⟩, ⟨1, ⟨1, 1⟩, ⟨1, 1⟩, ⟨1, 1⟩⟩, ⟨0, ⟨2, 1⟩, ⟨2, 1⟩, ⟨2, 1⟩⟩, ⟨2, ⟨3, 0⟩, ⟨3, 0⟩, ⟨3, 1⟩⟩]
theorem ex_regions : regionsP exO exA exB = exR := by
 rw [regionsP, ex_between0, ex_between1, ex_clusters]
 rfl
theorem ex_right : rightR exO exA exB 0 0 0 exR = true := by decide
def grapevinelaw08_awake.f : Option Bool := some true
theorem ex_awake : grapevinelaw08_awake0.f = some true := by
 have h1 : align_Regions.f [⟨#[49]⟩, ⟨#[50]⟩, ⟨#[51]⟩] [⟨#[49]⟩, ⟨#[120]⟩, ⟨#[51]⟩] [⟨#[49]⟩, ⟨#[50]⟩, ⟨#[51]⟩, ⟨#[52]⟩] = some exR := (regions_some exO exA exB (by decide) (by decide) (by decide)).trans (congrArg some ex_regions)
 have h2 : align_Right.f exR [⟨#[49]⟩, ⟨#[50]⟩, ⟨#[51]⟩] [⟨#[49]⟩, ⟨#[120]⟩, ⟨#[51]⟩] [⟨#[49]⟩, ⟨#[50]⟩, ⟨#[51]⟩, ⟨#[52]⟩] = some true := by
  rw [align_Right.f, if_pos ⟨by decide, by decide, by decide, by decide⟩]
  exact congrArg some ex_right
 unfold grapevinelaw08_awake0.f
 simp only [Option.bind_some]
 rw [h1, Option.bind_some, if_pos (by decide), h2, Option.bind_some]
 rfl
theorem grapevinelaw08_awake.calls (r : Bool) (w : World) (h : grapevinelaw08_awake.f = some r) :
  Calls Try.prog 7 #[] w fun e w' => e = .returned (.bool r) ∧ Below w.heap.size w w' := by
 obtain rfl := Option.some.inj h
 exact grapevinelaw08_awake0.calls true w ⟨rfl⟩ ex_awake
end Go.Proofs.Ytnmphfelebkaiaa.Pr
-- shrunk
-- written by a program of this session's (a turned copy of the kit's printer); Lean checks it
namespace Go.Proofs.Ytnmphfelebkaiaa.Pr
open Go.RowKit Go.Proofs.YtnmphfelebkaiaaW.PrintWords Go.Proofs.YtnmphfelebkaiaaW.PrintLast Go.Proofs.YtnmphfelebkaiaaW.PrintMore
attribute [local go_sem] max2_int min2_int max_two min_two max_three min_three max_four min_four   -- for this text's walks alone
set_option linter.unusedVariables false
set_option linter.unusedSimpArgs false

mutual
def grapevinelaw08_AlignOne.j0 : Nat → List ByteArray → List ByteArray → Bool → Bool → Option (Bool)
 | 0, _, _, _, _ => none
 | k + 1, x0, x1, x5, x20 => if x20 = true then (some x5) else ((align_Regions.f x0 x1 x0).bind fun t207 => ((align_Regions.f x0 x0 x1).bind fun t210 => ((align_Regions.f x0 x1 x1).bind fun t213 => (if (t207.length : Int) = (t210.length : Int) then (grapevinelaw08_AlignOne.j1 k x0 x1 x5 t207 t210 t213 ((t207.length : Int) != (t213.length : Int))) else (grapevinelaw08_AlignOne.j1 k x0 x1 x5 t207 t210 t213 true)))))
def grapevinelaw08_AlignOne.j1 : Nat → List ByteArray → List ByteArray → Bool → List (S32) → List (S32) → List (S32) → Bool → Option (Bool)
 | 0, _, _, _, _, _, _, _ => none
 | k + 1, x0, x1, x5, x6, x7, x8, x45 => if x45 = true then (some false) else (grapevinelaw08_AlignOne.l0 k x0 x1 x5 x6 x7 x8 0)
def grapevinelaw08_AlignOne.l0 : Nat → List ByteArray → List ByteArray → Bool → List (S32) → List (S32) → List (S32) → Int → Option (Bool)
 | 0, _, _, _, _, _, _, _ => none
 | k + 1, x0, x1, x5, x6, x7, x8, x9 => if x9 < (x6.length : Int) then (if 0 ≤ x9 then (if (((rd_T32 x6 x9).f0) = 0) then (grapevinelaw08_AlignOne.j3 k x0 x1 x5 x6 x7 x8 x9 (((rd_T32 x6 x9).f0) == 0) false) else (if ((rd_T32 x6 x9).f0) = 1 then (if x9 < (x7.length : Int) then (if ((rd_T32 x7 x9).f0) = 2 then (if x9 < (x8.length : Int) then (grapevinelaw08_AlignOne.j3 k x0 x1 x5 x6 x7 x8 x9 (((rd_T32 x6 x9).f0) == 0) (((rd_T32 x8 x9).f0) != 3)) else (none)) else (grapevinelaw08_AlignOne.j3 k x0 x1 x5 x6 x7 x8 x9 (((rd_T32 x6 x9).f0) == 0) true)) else (none)) else (grapevinelaw08_AlignOne.j3 k x0 x1 x5 x6 x7 x8 x9 (((rd_T32 x6 x9).f0) == 0) true))) else (none)) else ((grapevineref01_Texts.f k x0 x1).bind fun t216 => (if x5 = true then (if t216 = true then (some (decide ((x6.length : Int) ≤ 1))) else (some true)) else (some false)))
def grapevinelaw08_AlignOne.j3 : Nat → List ByteArray → List ByteArray → Bool → List (S32) → List (S32) → List (S32) → Int → Bool → Bool → Option (Bool)
 | 0, _, _, _, _, _, _, _, _, _ => none
 | k + 1, x0, x1, x5, x6, x7, x8, x9, x10, x83 => if x83 = true then (some false) else (if x10 = true then (if 0 ≤ x9 then (if x9 < (x7.length : Int) then (if ((rd_T32 x7 x9).f0) = 0 then (if x9 < (x8.length : Int) then (if ((rd_T32 x8 x9).f0) = 0 then (grapevinelaw08_AlignOne.l0 k x0 x1 x5 x6 x7 x8 (wrap64 (x9 + 1))) else (some false)) else (none)) else (some false)) else (none)) else (none)) else (grapevinelaw08_AlignOne.l0 k x0 x1 x5 x6 x7 x8 (wrap64 (x9 + 1))))
end
def grapevinelaw08_AlignOne.f (k : Nat) (l0 : List ByteArray) (l1 : List ByteArray) : Option (Bool) := (grapevinelaw08_awake.f).bind fun t206 => (if (l0.length : Int) > 30 then (grapevinelaw08_AlignOne.j0 k l0 l1 t206 true) else (grapevinelaw08_AlignOne.j0 k l0 l1 t206 (decide ((l1.length : Int) > 30))))
theorem grapevinelaw08_AlignOne.mono_l : ∀ k, (∀ y0 y1 y2 y3, LeO (grapevinelaw08_AlignOne.j0 k y0 y1 y2 y3) (grapevinelaw08_AlignOne.j0 (k + 1) y0 y1 y2 y3)) ∧ (∀ y0 y1 y2 y3 y4 y5 y6, LeO (grapevinelaw08_AlignOne.j1 k y0 y1 y2 y3 y4 y5 y6) (grapevinelaw08_AlignOne.j1 (k + 1) y0 y1 y2 y3 y4 y5 y6)) ∧ (∀ y0 y1 y2 y3 y4 y5 y6, LeO (grapevinelaw08_AlignOne.l0 k y0 y1 y2 y3 y4 y5 y6) (grapevinelaw08_AlignOne.l0 (k + 1) y0 y1 y2 y3 y4 y5 y6)) ∧ (∀ y0 y1 y2 y3 y4 y5 y6 y7 y8, LeO (grapevinelaw08_AlignOne.j3 k y0 y1 y2 y3 y4 y5 y6 y7 y8) (grapevinelaw08_AlignOne.j3 (k + 1) y0 y1 y2 y3 y4 y5 y6 y7 y8))
 | 0 => ⟨fun _ _ _ _ r h => by simp [grapevinelaw08_AlignOne.j0] at h, fun _ _ _ _ _ _ _ r h => by simp [grapevinelaw08_AlignOne.j1] at h, fun _ _ _ _ _ _ _ r h => by simp [grapevinelaw08_AlignOne.l0] at h, fun _ _ _ _ _ _ _ _ _ r h => by simp [grapevinelaw08_AlignOne.j3] at h⟩
 | k + 1 => by
  obtain ⟨ih0, ih1, ih2, ih3⟩ := grapevinelaw08_AlignOne.mono_l k
  refine ⟨?_, ?_, ?_, ?_⟩
  ·intro y0 y1 y2 y3
   unfold grapevinelaw08_AlignOne.j0
   repeat' first
   | (with_reducible exact ih0 _ _ _ _)
   | (with_reducible exact ih1 _ _ _ _ _ _ _)
   | (with_reducible exact ih2 _ _ _ _ _ _ _)
   | (with_reducible exact ih3 _ _ _ _ _ _ _ _ _)
   | (with_reducible exact grapevineref01_Texts.mono _ _ _)
   | (with_reducible exact LeO.refl _)
   | (with_reducible exact LeO.none _)
   | (with_reducible refine LeO.ite ?_ ?_)
   | (with_reducible refine LeO.bind ?_ (fun _ => ?_))
   | exact ih0 _ _ _ _
   | exact ih1 _ _ _ _ _ _ _
   | exact ih2 _ _ _ _ _ _ _
   | exact ih3 _ _ _ _ _ _ _ _ _
   | exact grapevineref01_Texts.mono _ _ _
   | exact LeO.none _
   | refine LeO.ite ?_ ?_
   | refine LeO.bind ?_ (fun _ => ?_)
  ·intro y0 y1 y2 y3 y4 y5 y6
   unfold grapevinelaw08_AlignOne.j1
   repeat' first
   | (with_reducible exact ih0 _ _ _ _)
   | (with_reducible exact ih1 _ _ _ _ _ _ _)
   | (with_reducible exact ih2 _ _ _ _ _ _ _)
   | (with_reducible exact ih3 _ _ _ _ _ _ _ _ _)
   | (with_reducible exact grapevineref01_Texts.mono _ _ _)
   | (with_reducible exact LeO.refl _)
   | (with_reducible exact LeO.none _)
   | (with_reducible refine LeO.ite ?_ ?_)
   | (with_reducible refine LeO.bind ?_ (fun _ => ?_))
   | exact ih0 _ _ _ _
   | exact ih1 _ _ _ _ _ _ _
   | exact ih2 _ _ _ _ _ _ _
   | exact ih3 _ _ _ _ _ _ _ _ _
   | exact grapevineref01_Texts.mono _ _ _
   | exact LeO.none _
   | refine LeO.ite ?_ ?_
   | refine LeO.bind ?_ (fun _ => ?_)
  ·intro y0 y1 y2 y3 y4 y5 y6
   unfold grapevinelaw08_AlignOne.l0
   repeat' first
   | (with_reducible exact ih0 _ _ _ _)
   | (with_reducible exact ih1 _ _ _ _ _ _ _)
   | (with_reducible exact ih2 _ _ _ _ _ _ _)
   | (with_reducible exact ih3 _ _ _ _ _ _ _ _ _)
   | (with_reducible exact grapevineref01_Texts.mono _ _ _)
   | (with_reducible exact LeO.refl _)
   | (with_reducible exact LeO.none _)
   | (with_reducible refine LeO.ite ?_ ?_)
   | (with_reducible refine LeO.bind ?_ (fun _ => ?_))
   | exact ih0 _ _ _ _
   | exact ih1 _ _ _ _ _ _ _
   | exact ih2 _ _ _ _ _ _ _
   | exact ih3 _ _ _ _ _ _ _ _ _
   | exact grapevineref01_Texts.mono _ _ _
   | exact LeO.none _
   | refine LeO.ite ?_ ?_
   | refine LeO.bind ?_ (fun _ => ?_)
  ·intro y0 y1 y2 y3 y4 y5 y6 y7 y8
   unfold grapevinelaw08_AlignOne.j3
   repeat' first
   | (with_reducible exact ih0 _ _ _ _)
   | (with_reducible exact ih1 _ _ _ _ _ _ _)
   | (with_reducible exact ih2 _ _ _ _ _ _ _)
   | (with_reducible exact ih3 _ _ _ _ _ _ _ _ _)
   | (with_reducible exact grapevineref01_Texts.mono _ _ _)
   | (with_reducible exact LeO.refl _)
   | (with_reducible exact LeO.none _)
   | (with_reducible refine LeO.ite ?_ ?_)
   | (with_reducible refine LeO.bind ?_ (fun _ => ?_))
   | exact ih0 _ _ _ _
   | exact ih1 _ _ _ _ _ _ _
   | exact ih2 _ _ _ _ _ _ _
   | exact ih3 _ _ _ _ _ _ _ _ _
   | exact grapevineref01_Texts.mono _ _ _
   | exact LeO.none _
   | refine LeO.ite ?_ ?_
   | refine LeO.bind ?_ (fun _ => ?_)
theorem grapevinelaw08_AlignOne.mono : ∀ a0 a1 k, LeO (grapevinelaw08_AlignOne.f k a0 a1) (grapevinelaw08_AlignOne.f (k + 1) a0 a1) := by
 intro a0 a1 k
 obtain ⟨ih0, ih1, ih2, ih3⟩ := grapevinelaw08_AlignOne.mono_l k
 unfold grapevinelaw08_AlignOne.f
 repeat' first
   | (with_reducible exact ih0 _ _ _ _)
   | (with_reducible exact ih1 _ _ _ _ _ _ _)
   | (with_reducible exact ih2 _ _ _ _ _ _ _)
   | (with_reducible exact ih3 _ _ _ _ _ _ _ _ _)
   | (with_reducible exact grapevineref01_Texts.mono _ _ _)
   | (with_reducible exact LeO.refl _)
   | (with_reducible exact LeO.none _)
   | (with_reducible refine LeO.ite ?_ ?_)
   | (with_reducible refine LeO.bind ?_ (fun _ => ?_))
   | exact ih0 _ _ _ _
   | exact ih1 _ _ _ _ _ _ _
   | exact ih2 _ _ _ _ _ _ _
   | exact ih3 _ _ _ _ _ _ _ _ _
   | exact grapevineref01_Texts.mono _ _ _
   | exact LeO.none _
   | refine LeO.ite ?_ ?_
   | refine LeO.bind ?_ (fun _ => ?_)
set_option maxHeartbeats 8000000 in
set_option maxRecDepth 100000 in
theorem grapevinelaw08_AlignOne.calls (k : Nat) (A0 : Option Addr) (c0 : Nat) (l0 : List ByteArray) (A1 : Option Addr) (c1 : Nat) (l1 : List ByteArray) (r : Bool) (w : World) (hrt_ : Aside0 (r = true)) (hr0 : Kd.C Kd.string w A0 l0.length l0) (hc0 : l0.length ≤ c0) (hr1 : Kd.C Kd.string w A1 l1.length l1) (hc1 : l1.length ≤ c1) (h : grapevinelaw08_AlignOne.f k l0 l1 = some r) :
  Calls Try.prog 6 #[.slice A0 l0.length c0, .slice A1 l1.length c1] w fun e w' => e = .returned (.bool r) ∧ Below w.heap.size w w' := by
 have HR0 := Aside0.mk hr0
 have HC0 := Aside0.mk hc0
 clear hr0 hc0
 have HR1 := Aside0.mk hr1
 have HC1 := Aside0.mk hc1
 clear hr1 hc1
 have HB := Aside0.mk (Below.refl w.heap.size w)
 have H : ((grapevinelaw08_awake.f).bind fun t206 => (if (l0.length : Int) > 30 then (grapevinelaw08_AlignOne.j0 k l0 l1 t206 true) else (grapevinelaw08_AlignOne.j0 k l0 l1 t206 (decide ((l1.length : Int) > 30))))) = some r := h
 clear h
 replace H := Option.bind_eq_some_iff.mp H
 obtain ⟨t206, A30, H⟩ := H
 replace H : (if (l0.length : Int) > 30 then (grapevinelaw08_AlignOne.j0 k l0 l1 t206 true) else (grapevinelaw08_AlignOne.j0 k l0 l1 t206 (decide ((l1.length : Int) > 30)))) = some r := H
 have A3 := Aside0.mk A30
 clear A30
 have HC4 := Aside0.mk H
 clear H
 go_enter Try.func6, Try.ntmps6
 go_upto_region 2 with (first | ((with_reducible refine gate_callee (f := 7) rfl ?_); refine goesL_ (some 12) rfl rfl Try.func7 (by kernel_rfl) rfl #[] rfl (by (try simp only [List.map_toArray, List.map_cons, List.map_nil]); first | done | rfl | (simp only [List.length_drop, List.length_take]; rfl)) ?_; (with_reducible refine (grapevinelaw08_awake.calls  t206 _ A3.out).mono ?_); rintro e w5 ⟨rfl, hb⟩; refine ⟨_, rfl, ?_⟩; have n0_ := Aside0.mk (below_step (by repeat (first | (with_reducible first | exact HB.out | apply below_alloc | apply pw_below_drewN | apply below_drew1) | exact HB.out)) hb); clear HB; have HB := n0_; clear n0_; (try clear hb); (try clear hb2); (try clear hk); (try clear hi)))
 (try simp only [Act.put, List.setIfInBounds_toArray, List.set_cons_zero, List.set_cons_succ])
 go_cut [20] (fun v20 wc => ∃ (kq : Nat) (x20_3 : Bool), v20 = .bool x20_3 ∧ Aside0 (grapevinelaw08_AlignOne.j0 kq l0 l1 t206 x20_3 = some r) ∧ Aside0 (kq ≤ k) ∧ Aside0 (Below w.heap.size w wc))
 case first =>
  have H := HC4.out
  clear HC4
  by_cases c6 : (l0.length : Int) > 30
  ·rw [if_pos c6] at H
   have c6b0 : decide (30 < (l0.length : Int)) = true := decide_eq_true c6
   have c6b1 : decide (30 < l0.length) = true := decide_eq_true (by omega)
   clear c6
   (first | rw [c6b0] | (simp only [i64_w, i32_w]; rw [c6b0]) | skip)
   have H' := Aside0.mk H
   clear H
   go_wp2
   go_meet
   case rel => exact ⟨_, (true), (by first | rfl | (simp; done) | (simp [*]; done)), H', ⟨by first | omega | exact Nat.le_refl _⟩, ⟨by repeat (first | (with_reducible first | exact HB.out | apply below_alloc | apply pw_below_drewN | apply below_drew1) | exact HB.out)⟩⟩
  ·rw [if_neg c6] at H
   have c6b0 : decide (30 < (l0.length : Int)) = false := decide_eq_false c6
   have c6b1 : decide (30 < l0.length) = false := decide_eq_false (by omega)
   clear c6
   (first | rw [c6b0] | (simp only [i64_w, i32_w]; rw [c6b0]) | skip)
   have H' := Aside0.mk H
   clear H
   go_wp2
   go_meet
   case rel => exact ⟨_, (decide ((l1.length : Int) > 30)), (by first | rfl | (simp; done) | (simp [*]; done)), H', ⟨by first | omega | exact Nat.le_refl _⟩, ⟨by repeat (first | (with_reducible first | exact HB.out | apply below_alloc | apply pw_below_drewN | apply below_drew1) | exact HB.out)⟩⟩
 case rest =>
  clear HC4
  try clear c1
  try clear p2
  try clear c6
  try clear c6b0
  try clear c6b1
  obtain ⟨kq, x20_3, rfl, HA, HJ3, HB⟩ := hcut
  cases kq with
  | zero => exact absurd HA.out (by simp [grapevinelaw08_AlignOne.j0])
  | succ kj3 =>
   have H := HA.out
   clear HA
   simp only [grapevinelaw08_AlignOne.j0] at H
   by_cases c7 : x20_3 = true
   ·subst c7
    have H1 : (some t206) = some r := by rw [if_pos rfl] at H; exact H
    clear H
    have H := H1
    clear H1
    obtain rfl := Option.some.inj H
    go_wp2
    go_ret
    exact ⟨by first | rfl | (simp [errW_none, errW_some] <;> rfl) | (simp [*, errW_none, errW_some] <;> rfl), by repeat (first | (with_reducible first | exact HB.out | apply below_alloc | apply pw_below_drewN | apply below_drew1) | exact HB.out)⟩
   ·replace c7 := Bool.eq_false_iff.mpr c7
    subst c7
    have H1 : ((align_Regions.f l0 l1 l0).bind fun t207 => ((align_Regions.f l0 l0 l1).bind fun t210 => ((align_Regions.f l0 l1 l1).bind fun t213 => (if (t207.length : Int) = (t210.length : Int) then (grapevinelaw08_AlignOne.j1 kj3 l0 l1 t206 t207 t210 t213 ((t207.length : Int) != (t213.length : Int))) else (grapevinelaw08_AlignOne.j1 kj3 l0 l1 t206 t207 t210 t213 true))))) = some r := by rw [if_neg (show ¬ (false = true) by decide)] at H; exact H
    clear H
    have H := H1
    clear H1
    replace H := Option.bind_eq_some_iff.mp H
    obtain ⟨t207, A80, H⟩ := H
    replace H : ((align_Regions.f l0 l0 l1).bind fun t210 => ((align_Regions.f l0 l1 l1).bind fun t213 => (if (t207.length : Int) = (t210.length : Int) then (grapevinelaw08_AlignOne.j1 kj3 l0 l1 t206 t207 t210 t213 ((t207.length : Int) != (t213.length : Int))) else (grapevinelaw08_AlignOne.j1 kj3 l0 l1 t206 t207 t210 t213 true)))) = some r := H
    have A8 := Aside0.mk A80
    clear A80
    replace H := Option.bind_eq_some_iff.mp H
    obtain ⟨t210, A90, H⟩ := H
    replace H : ((align_Regions.f l0 l1 l1).bind fun t213 => (if (t207.length : Int) = (t210.length : Int) then (grapevinelaw08_AlignOne.j1 kj3 l0 l1 t206 t207 t210 t213 ((t207.length : Int) != (t213.length : Int))) else (grapevinelaw08_AlignOne.j1 kj3 l0 l1 t206 t207 t210 t213 true))) = some r := H
    have A9 := Aside0.mk A90
    clear A90
    replace H := Option.bind_eq_some_iff.mp H
    obtain ⟨t213, A100, H⟩ := H
    replace H : (if (t207.length : Int) = (t210.length : Int) then (grapevinelaw08_AlignOne.j1 kj3 l0 l1 t206 t207 t210 t213 ((t207.length : Int) != (t213.length : Int))) else (grapevinelaw08_AlignOne.j1 kj3 l0 l1 t206 t207 t210 t213 true)) = some r := H
    have A10 := Aside0.mk A100
    clear A100
    have HC11 := Aside0.mk H
    clear H
    go_upto_region 7 with (first | ((with_reducible refine gate_callee (f := 9) rfl ?_); refine goesL_ (some 25) rfl rfl Try.func9 (by kernel_rfl) rfl #[.slice A0 l0.length c0, .slice A1 l1.length c1, .slice A0 l0.length c0] rfl (by (try simp only [List.map_toArray, List.map_cons, List.map_nil]); first | done | rfl | (simp only [List.length_drop, List.length_take]; rfl)) ?_; (with_reducible refine (align_Regions.calls _ _ l0 _ _ l1 _ _ l0 t207 _ ?side1 ?side2 ?side3 ?side4 ?side5 ?side6 A8.out).mono ?_); (case side1 => repeat (first | exact (Kd.C_below HR0.out HB.out) | (with_reducible refine Kd.C_alloc ?_ _) | (with_reducible refine Kd.C_drewN ?_ _) | (with_reducible refine Kd.C_drew ?_))); (case side2 => exact HC0.out); (case side3 => repeat (first | exact (Kd.C_below HR1.out HB.out) | (with_reducible refine Kd.C_alloc ?_ _) | (with_reducible refine Kd.C_drewN ?_ _) | (with_reducible refine Kd.C_drew ?_))); (case side4 => exact HC1.out); (case side5 => repeat (first | exact (Kd.C_below HR0.out HB.out) | (with_reducible refine Kd.C_alloc ?_ _) | (with_reducible refine Kd.C_drewN ?_ _) | (with_reducible refine Kd.C_drew ?_))); (case side6 => exact HC0.out); rintro e w12 ⟨v208, rfl, ho0, hb⟩; refine ⟨_, rfl, ?_⟩; have n0_ := Aside0.mk (Kd.R_lower ho0 (below_size (by repeat (first | (with_reducible first | exact HB.out | apply below_alloc | apply pw_below_drewN | apply below_drew1) | exact HB.out)))); have n1_ := Aside0.mk (below_step (by repeat (first | (with_reducible first | exact HB.out | apply below_alloc | apply pw_below_drewN | apply below_drew1) | exact HB.out)) hb); clear HB; have HO209 := n0_; have HB := n1_; clear n0_ n1_; (try clear hb); (try clear hb2); (try clear hk); (try clear hi); (try clear ho0)) | ((with_reducible refine gate_callee (f := 9) rfl ?_); refine goesL_ (some 29) rfl rfl Try.func9 (by kernel_rfl) rfl #[.slice A0 l0.length c0, .slice A0 l0.length c0, .slice A1 l1.length c1] rfl (by (try simp only [List.map_toArray, List.map_cons, List.map_nil]); first | done | rfl | (simp only [List.length_drop, List.length_take]; rfl)) ?_; (with_reducible refine (align_Regions.calls _ _ l0 _ _ l0 _ _ l1 t210 _ ?side1 ?side2 ?side3 ?side4 ?side5 ?side6 A9.out).mono ?_); (case side1 => repeat (first | exact (Kd.C_below HR0.out HB.out) | (with_reducible refine Kd.C_alloc ?_ _) | (with_reducible refine Kd.C_drewN ?_ _) | (with_reducible refine Kd.C_drew ?_))); (case side2 => exact HC0.out); (case side3 => repeat (first | exact (Kd.C_below HR0.out HB.out) | (with_reducible refine Kd.C_alloc ?_ _) | (with_reducible refine Kd.C_drewN ?_ _) | (with_reducible refine Kd.C_drew ?_))); (case side4 => exact HC0.out); (case side5 => repeat (first | exact (Kd.C_below HR1.out HB.out) | (with_reducible refine Kd.C_alloc ?_ _) | (with_reducible refine Kd.C_drewN ?_ _) | (with_reducible refine Kd.C_drew ?_))); (case side6 => exact HC1.out); rintro e w13 ⟨v211, rfl, ho0, hb⟩; refine ⟨_, rfl, ?_⟩; have n0_ := Aside0.mk (Kd.R_elder' (by (with_reducible repeat (first | apply Kd.R_alloc | apply Kd.R_drewN | apply Kd.R_drew)); exact HO209.out) (Kd.R_base ho0) hb); have n1_ := Aside0.mk (Kd.R_lower (Kd.R_new' ho0 (Kd.R_lt (by (with_reducible repeat (first | apply Kd.R_alloc | apply Kd.R_drewN | apply Kd.R_drew)); exact HO209.out))) (below_size (by repeat (first | (with_reducible first | exact HB.out | apply below_alloc | apply pw_below_drewN | apply below_drew1) | exact HB.out)))); have n2_ := Aside0.mk (below_step (by repeat (first | (with_reducible first | exact HB.out | apply below_alloc | apply pw_below_drewN | apply below_drew1) | exact HB.out)) hb); clear HO209; clear HB; have HO209 := n0_; have HO212 := n1_; have HB := n2_; clear n0_ n1_ n2_; (try clear hb); (try clear hb2); (try clear hk); (try clear hi); (try clear ho0)) | ((with_reducible refine gate_callee (f := 9) rfl ?_); refine goesL_ (some 33) rfl rfl Try.func9 (by kernel_rfl) rfl #[.slice A0 l0.length c0, .slice A1 l1.length c1, .slice A1 l1.length c1] rfl (by (try simp only [List.map_toArray, List.map_cons, List.map_nil]); first | done | rfl | (simp only [List.length_drop, List.length_take]; rfl)) ?_; (with_reducible refine (align_Regions.calls _ _ l0 _ _ l1 _ _ l1 t213 _ ?side1 ?side2 ?side3 ?side4 ?side5 ?side6 A10.out).mono ?_); (case side1 => repeat (first | exact (Kd.C_below HR0.out HB.out) | (with_reducible refine Kd.C_alloc ?_ _) | (with_reducible refine Kd.C_drewN ?_ _) | (with_reducible refine Kd.C_drew ?_))); (case side2 => exact HC0.out); (case side3 => repeat (first | exact (Kd.C_below HR1.out HB.out) | (with_reducible refine Kd.C_alloc ?_ _) | (with_reducible refine Kd.C_drewN ?_ _) | (with_reducible refine Kd.C_drew ?_))); (case side4 => exact HC1.out); (case side5 => repeat (first | exact (Kd.C_below HR1.out HB.out) | (with_reducible refine Kd.C_alloc ?_ _) | (with_reducible refine Kd.C_drewN ?_ _) | (with_reducible refine Kd.C_drew ?_))); (case side6 => exact HC1.out); rintro e w14 ⟨v214, rfl, ho0, hb⟩; refine ⟨_, rfl, ?_⟩; have n0_ := Aside0.mk (Kd.R_elder' (by (with_reducible repeat (first | apply Kd.R_alloc | apply Kd.R_drewN | apply Kd.R_drew)); exact HO209.out) (Kd.R_base ho0) hb); have n1_ := Aside0.mk (Kd.R_elder' (by (with_reducible repeat (first | apply Kd.R_alloc | apply Kd.R_drewN | apply Kd.R_drew)); exact HO212.out) (Kd.R_base ho0) hb); have n2_ := Aside0.mk (Kd.R_lower (Kd.R_new' (Kd.R_new' ho0 (Kd.R_lt (by (with_reducible repeat (first | apply Kd.R_alloc | apply Kd.R_drewN | apply Kd.R_drew)); exact HO209.out))) (Kd.R_lt (by (with_reducible repeat (first | apply Kd.R_alloc | apply Kd.R_drewN | apply Kd.R_drew)); exact HO212.out))) (below_size (by repeat (first | (with_reducible first | exact HB.out | apply below_alloc | apply pw_below_drewN | apply below_drew1) | exact HB.out)))); have n3_ := Aside0.mk (below_step (by repeat (first | (with_reducible first | exact HB.out | apply below_alloc | apply pw_below_drewN | apply below_drew1) | exact HB.out)) hb); clear HO209; clear HO212; clear HB; have HO209 := n0_; have HO212 := n1_; have HO215 := n2_; have HB := n3_; clear n0_ n1_ n2_ n3_; (try clear hb); (try clear hb2); (try clear hk); (try clear hi); (try clear ho0)))
    (try simp only [Act.put, List.setIfInBounds_toArray, List.set_cons_zero, List.set_cons_succ])
    go_cut [45] (fun v45 wc => ∃ (kq : Nat) (x45_10 : Bool), v45 = .bool x45_10 ∧ Aside0 (grapevinelaw08_AlignOne.j1 kq l0 l1 t206 t207 t210 t213 x45_10 = some r) ∧ Aside0 (kq ≤ kj3) ∧ Aside0 (Kd.R k32 32 wc w.heap.size (fun k_ => some k_ ≠ (v211 : Value).ownBlock ∧ some k_ ≠ (v214 : Value).ownBlock) v208 t207) ∧ Aside0 (Kd.R k32 32 wc w.heap.size (fun k_ => some k_ ≠ (v208 : Value).ownBlock ∧ some k_ ≠ (v214 : Value).ownBlock) v211 t210) ∧ Aside0 (Kd.R k32 32 wc w.heap.size (fun k_ => some k_ ≠ (v208 : Value).ownBlock ∧ some k_ ≠ (v211 : Value).ownBlock) v214 t213) ∧ Aside0 (Below w.heap.size w wc))
    case first =>
     have H := HC11.out
     clear HC11
     by_cases c15 : (t207.length : Int) = (t210.length : Int)
     ·rw [if_pos c15] at H
      have c15b0 : ((t207.length : Int) == (t210.length : Int)) = true := beq_iff_eq.mpr c15
      have c15b1 : ((t207.length : Int) != (t210.length : Int)) = false := bne_eq_false_iff_eq.mpr c15
      have c15b2 : (t207.length == t210.length) = true := by first | simpa using c15 | (simp at c15 ⊢; omega)
      clear c15
      (first | rw [c15b0] | (simp only [i64_w, i32_w]; rw [c15b0]) | skip)
      have H' := Aside0.mk H
      clear H
      obtain ⟨Ao16, co16, eo16⟩ := Kd.R_slice HO209.out
      subst eo16
      obtain ⟨Ao17, co17, eo17⟩ := Kd.R_slice HO212.out
      subst eo17
      obtain ⟨Ao18, co18, eo18⟩ := Kd.R_slice HO215.out
      subst eo18
      go_wp2
      go_meet
      case rel => exact ⟨_, (((t207.length : Int) != (t213.length : Int))), (by first | rfl | (simp; done) | (simp [*]; done)), H', ⟨by have := HJ3.out; first | omega | exact Nat.le_refl _⟩, ⟨by (with_reducible repeat (first | apply Kd.R_alloc | apply Kd.R_drewN | apply Kd.R_drew)); exact Kd.R_mono HO209.out (fun _ hk => ⟨hk.1.2, hk.2⟩)⟩, ⟨by (with_reducible repeat (first | apply Kd.R_alloc | apply Kd.R_drewN | apply Kd.R_drew)); exact Kd.R_mono HO212.out (fun _ hk => ⟨hk.1.2, hk.2⟩)⟩, ⟨by (with_reducible repeat (first | apply Kd.R_alloc | apply Kd.R_drewN | apply Kd.R_drew)); exact Kd.R_mono HO215.out (fun _ hk => ⟨hk.1.2, hk.2⟩)⟩, ⟨by repeat (first | (with_reducible first | exact HB.out | apply below_alloc | apply pw_below_drewN | apply below_drew1) | exact HB.out)⟩⟩
     ·rw [if_neg c15] at H
      have c15b0 : ((t207.length : Int) == (t210.length : Int)) = false := beq_eq_false_iff_ne.mpr c15
      have c15b1 : ((t207.length : Int) != (t210.length : Int)) = true := bne_iff_ne.mpr c15
      have c15b2 : (t207.length == t210.length) = false := by first | simpa using c15 | (simp at c15 ⊢; omega)
      (first | rw [c15b0] | (simp only [i64_w, i32_w]; rw [c15b0]) | skip)
      have H' := Aside0.mk H
      clear H
      obtain ⟨Ao19, co19, eo19⟩ := Kd.R_slice HO209.out
      subst eo19
      obtain ⟨Ao20, co20, eo20⟩ := Kd.R_slice HO212.out
      subst eo20
      go_wp2
      go_meet
      case rel => exact ⟨_, (true), (by first | rfl | (simp; done) | (simp [*]; done)), H', ⟨by have := HJ3.out; first | omega | exact Nat.le_refl _⟩, ⟨by (with_reducible repeat (first | apply Kd.R_alloc | apply Kd.R_drewN | apply Kd.R_drew)); exact Kd.R_mono HO209.out (fun _ hk => ⟨hk.1.2, hk.2⟩)⟩, ⟨by (with_reducible repeat (first | apply Kd.R_alloc | apply Kd.R_drewN | apply Kd.R_drew)); exact Kd.R_mono HO212.out (fun _ hk => ⟨hk.1.2, hk.2⟩)⟩, ⟨by (with_reducible repeat (first | apply Kd.R_alloc | apply Kd.R_drewN | apply Kd.R_drew)); exact Kd.R_mono HO215.out (fun _ hk => ⟨hk.1.2, hk.2⟩)⟩, ⟨by repeat (first | (with_reducible first | exact HB.out | apply below_alloc | apply pw_below_drewN | apply below_drew1) | exact HB.out)⟩⟩
    case rest =>
     clear HC11
     try clear c1
     try clear p2
     try clear c6
     try clear c6b0
     try clear c6b1
     try clear c7
     try clear c9
     try clear c15
     try clear c15b0
     try clear c15b1
     try clear c15b2
     try clear p2
     obtain ⟨kq, x45_10, rfl, HA, HJ10, HO_6, HO_7, HO_8, HB⟩ := hcut
     cases kq with
     | zero => exact absurd HA.out (by simp [grapevinelaw08_AlignOne.j1])
     | succ kj10 =>
      have H := HA.out
      clear HA
      simp only [grapevinelaw08_AlignOne.j1] at H
      by_cases c21 : x45_10 = true
      ·subst c21
       have H1 : (some false) = some r := by rw [if_pos rfl] at H; exact H
       clear H
       have H := H1
       clear H1
       exact absurd (H.trans (congrArg some hrt_.out)) (by simp)
      ·replace c21 := Bool.eq_false_iff.mpr c21
       subst c21
       have H1 : (grapevinelaw08_AlignOne.l0 kj10 l0 l1 t206 t207 t210 t213 0) = some r := by rw [if_neg (show ¬ (false = true) by decide)] at H; exact H
       clear H
       have H := H1
       clear H1
       have H' := Aside0.mk H
       clear H
       go_wp2
       go_loopg [9] kj10 (fun kq v9 w' => ∃ (x9_3 : Int), v9 = .int .i64 x9_3 ∧ Aside0 (grapevinelaw08_AlignOne.l0 kq l0 l1 t206 t207 t210 t213 x9_3 = some r) ∧ Aside0 (kq ≤ kj10) ∧ Aside0 (Kd.R k32 32 w' w.heap.size (fun k_ => some k_ ≠ (v211 : Value).ownBlock ∧ some k_ ≠ (v214 : Value).ownBlock) v208 t207) ∧ Aside0 (Kd.R k32 32 w' w.heap.size (fun k_ => some k_ ≠ (v208 : Value).ownBlock ∧ some k_ ≠ (v214 : Value).ownBlock) v211 t210) ∧ Aside0 (Kd.R k32 32 w' w.heap.size (fun k_ => some k_ ≠ (v208 : Value).ownBlock ∧ some k_ ≠ (v211 : Value).ownBlock) v214 t213) ∧ Aside0 (Below w.heap.size w w'))
       case atStart => exact ⟨(0), (by first | rfl | (simp; done) | (simp [*]; done)), H', ⟨Nat.le_refl _⟩, ⟨by (with_reducible repeat (first | apply Kd.R_alloc | apply Kd.R_drewN | apply Kd.R_drew)); exact HO_6.out⟩, ⟨by (with_reducible repeat (first | apply Kd.R_alloc | apply Kd.R_drewN | apply Kd.R_drew)); exact HO_7.out⟩, ⟨by (with_reducible repeat (first | apply Kd.R_alloc | apply Kd.R_drewN | apply Kd.R_drew)); exact HO_8.out⟩, ⟨by repeat (first | (with_reducible first | exact HB.out | apply below_alloc | apply pw_below_drewN | apply below_drew1) | exact HB.out)⟩⟩
       case round =>
        clear H'
        try clear c1
        try clear c2
        try clear p2
        try clear c6
        try clear c6b0
        try clear c6b1
        try clear c7
        try clear c9
        try clear c15
        try clear c15b0
        try clear c15b1
        try clear c15b2
        try clear c21
        try clear p2
        obtain ⟨x9_3, rfl, HA, HK3, HO_6, HO_7, HO_8, HB⟩ := hrel
        cases gk with
        | zero => exact absurd HA.out (by simp [grapevinelaw08_AlignOne.l0])
        | succ k3 =>
         have H := HA.out
         clear HA
         simp only [grapevinelaw08_AlignOne.l0] at H
         by_cases c22 : x9_3 < (t207.length : Int)
         ·rw [if_pos c22] at H
          have c22b0 : decide (x9_3 < (t207.length : Int)) = true := decide_eq_true c22
          clear c22
          by_cases c23 : 0 ≤ x9_3
          ·rw [if_pos c23] at H
           have c23b0 : decide (0 ≤ x9_3) = true := decide_eq_true c23
           clear c23
           have HC24 := Aside0.mk H
           clear H
           obtain ⟨Ao25, co25, eo25⟩ := Kd.R_slice HO_6.out
           subst eo25
           have p217 : 0 ≤ (x9_3 : Int) := of_decide_eq_true (by first | (with_reducible assumption) | assumption)
           have q217 : x9_3 < (t207.length : Int) := of_decide_eq_true (by first | (with_reducible assumption) | assumption)
           obtain ⟨ad217, e217, hx217_0, hx217_1, hx217_2, hx217_3, hx217_4, hx217_5, hx217_6⟩ := at_T32 (Kd.R_reads' HO_6.out).2.2 x9_3 p217 q217
           cases e217
           replace p217 := eq_true p217
           replace q217 := eq_true q217
           go_upto_region 13 with (fail)
           obtain ⟨z10, hz10⟩ : ∃ z10 : Bool, z10 = (((rd_T32 t207 x9_3).f0) == 0) := ⟨_, rfl⟩
           rw [← hz10] at HC24 ⊢
           go_cut [83] (fun v83 wc => ∃ (kq : Nat) (x83_23 : Bool), v83 = .bool x83_23 ∧ Aside0 (grapevinelaw08_AlignOne.j3 kq l0 l1 t206 t207 t210 t213 x9_3 z10 x83_23 = some r) ∧ Aside0 (kq ≤ k3) ∧ Aside0 (Kd.R k32 32 wc w.heap.size (fun k_ => some k_ ≠ (v211 : Value).ownBlock ∧ some k_ ≠ (v214 : Value).ownBlock) (.slice (some ad217) t207.length co25) t207) ∧ Aside0 (Kd.R k32 32 wc w.heap.size (fun k_ => some k_ ≠ ((.slice (some ad217) t207.length co25) : Value).ownBlock ∧ some k_ ≠ (v214 : Value).ownBlock) v211 t210) ∧ Aside0 (Kd.R k32 32 wc w.heap.size (fun k_ => some k_ ≠ ((.slice (some ad217) t207.length co25) : Value).ownBlock ∧ some k_ ≠ (v211 : Value).ownBlock) v214 t213) ∧ Aside0 (Below w.heap.size w wc))
           case first =>
            have H := HC24.out
            clear HC24
            by_cases c26 : (((rd_T32 t207 x9_3).f0) = 0)
            ·rw [if_pos c26] at H
             have c26b0 : (((rd_T32 t207 x9_3).f0) == 0) = true := beq_iff_eq.mpr c26
             have c26b1 : (((rd_T32 t207 x9_3).f0) != 0) = false := bne_eq_false_iff_eq.mpr c26
             clear c26
             rw [c26b0] at hz10
             subst hz10
             (first | rw [c26b0] | (simp only [i64_w, i32_w]; rw [c26b0]) | skip)
             have H' := Aside0.mk H
             clear H
             go_wp2
             go_meet
             case rel => exact ⟨_, (false), (by first | rfl | (simp; done) | (simp [*]; done)), H', ⟨by have := HJ3.out; have := HJ10.out; have := HK3.out; first | omega | exact Nat.le_refl _⟩, ⟨by (with_reducible repeat (first | apply Kd.R_alloc | apply Kd.R_drewN | apply Kd.R_drew)); exact HO_6.out⟩, ⟨by (with_reducible repeat (first | apply Kd.R_alloc | apply Kd.R_drewN | apply Kd.R_drew)); exact HO_7.out⟩, ⟨by (with_reducible repeat (first | apply Kd.R_alloc | apply Kd.R_drewN | apply Kd.R_drew)); exact HO_8.out⟩, ⟨by repeat (first | (with_reducible first | exact HB.out | apply below_alloc | apply pw_below_drewN | apply below_drew1) | exact HB.out)⟩⟩
            ·rw [if_neg c26] at H
             have c26b0 : (((rd_T32 t207 x9_3).f0) == 0) = false := beq_eq_false_iff_ne.mpr c26
             have c26b1 : (((rd_T32 t207 x9_3).f0) != 0) = true := bne_iff_ne.mpr c26
             clear c26
             rw [c26b0] at hz10
             subst hz10
             (first | rw [c26b0] | (simp only [i64_w, i32_w]; rw [c26b0]) | skip)
             by_cases c27 : ((rd_T32 t207 x9_3).f0) = 1
             ·rw [if_pos c27] at H
              have c27b0 : (((rd_T32 t207 x9_3).f0) == 1) = true := beq_iff_eq.mpr c27
              have c27b1 : (((rd_T32 t207 x9_3).f0) != 1) = false := bne_eq_false_iff_eq.mpr c27
              clear c27
              by_cases c28 : x9_3 < (t210.length : Int)
              ·rw [if_pos c28] at H
               have c28b0 : decide (x9_3 < (t210.length : Int)) = true := decide_eq_true c28
               clear c28
               by_cases c29 : ((rd_T32 t210 x9_3).f0) = 2
               ·rw [if_pos c29] at H
                have c29b0 : (((rd_T32 t210 x9_3).f0) == 2) = true := beq_iff_eq.mpr c29
                have c29b1 : (((rd_T32 t210 x9_3).f0) != 2) = false := bne_eq_false_iff_eq.mpr c29
                clear c29
                by_cases c30 : x9_3 < (t213.length : Int)
                ·rw [if_pos c30] at H
                 have c30b0 : decide (x9_3 < (t213.length : Int)) = true := decide_eq_true c30
                 clear c30
                 have H' := Aside0.mk H
                 clear H
                 have p218 : 0 ≤ (x9_3 : Int) := of_decide_eq_true (by first | (with_reducible assumption) | assumption)
                 have q218 : x9_3 < (t207.length : Int) := of_decide_eq_true (by first | (with_reducible assumption) | assumption)
                 obtain ⟨ad218, e218, hx218_0, hx218_1, hx218_2, hx218_3, hx218_4, hx218_5, hx218_6⟩ := at_T32 (Kd.R_reads' HO_6.out).2.2 x9_3 p218 q218
                 obtain rfl : ad217 = ad218 := (by injection e218)
                 replace p218 := eq_true p218
                 replace q218 := eq_true q218
                 obtain ⟨Ao31, co31, eo31⟩ := Kd.R_slice HO_7.out
                 subst eo31
                 have p219 : 0 ≤ (x9_3 : Int) := of_decide_eq_true (by first | (with_reducible assumption) | assumption)
                 have q219 : x9_3 < (t210.length : Int) := of_decide_eq_true (by first | (with_reducible assumption) | assumption)
                 obtain ⟨ad219, e219, hx219_0, hx219_1, hx219_2, hx219_3, hx219_4, hx219_5, hx219_6⟩ := at_T32 (Kd.R_reads' HO_7.out).2.2 x9_3 p219 q219
                 cases e219
                 replace p219 := eq_true p219
                 replace q219 := eq_true q219
                 obtain ⟨Ao32, co32, eo32⟩ := Kd.R_slice HO_8.out
                 subst eo32
                 have p220 : 0 ≤ (x9_3 : Int) := of_decide_eq_true (by first | (with_reducible assumption) | assumption)
                 have q220 : x9_3 < (t213.length : Int) := of_decide_eq_true (by first | (with_reducible assumption) | assumption)
                 obtain ⟨ad220, e220, hx220_0, hx220_1, hx220_2, hx220_3, hx220_4, hx220_5, hx220_6⟩ := at_T32 (Kd.R_reads' HO_8.out).2.2 x9_3 p220 q220
                 cases e220
                 replace p220 := eq_true p220
                 replace q220 := eq_true q220
                 go_wp2
                 go_meet
                 case rel => exact ⟨_, ((((rd_T32 t213 x9_3).f0) != 3)), (by first | rfl | (simp; done) | (simp [*]; done)), H', ⟨by have := HJ3.out; have := HJ10.out; have := HK3.out; first | omega | exact Nat.le_refl _⟩, ⟨by (with_reducible repeat (first | apply Kd.R_alloc | apply Kd.R_drewN | apply Kd.R_drew)); exact HO_6.out⟩, ⟨by (with_reducible repeat (first | apply Kd.R_alloc | apply Kd.R_drewN | apply Kd.R_drew)); exact HO_7.out⟩, ⟨by (with_reducible repeat (first | apply Kd.R_alloc | apply Kd.R_drewN | apply Kd.R_drew)); exact HO_8.out⟩, ⟨by repeat (first | (with_reducible first | exact HB.out | apply below_alloc | apply pw_below_drewN | apply below_drew1) | exact HB.out)⟩⟩
                ·rw [if_neg c30] at H
                 exact absurd H (by simp)
               ·rw [if_neg c29] at H
                have c29b0 : (((rd_T32 t210 x9_3).f0) == 2) = false := beq_eq_false_iff_ne.mpr c29
                have c29b1 : (((rd_T32 t210 x9_3).f0) != 2) = true := bne_iff_ne.mpr c29
                have H' := Aside0.mk H
                clear H
                have p218 : 0 ≤ (x9_3 : Int) := of_decide_eq_true (by first | (with_reducible assumption) | assumption)
                have q218 : x9_3 < (t207.length : Int) := of_decide_eq_true (by first | (with_reducible assumption) | assumption)
                obtain ⟨ad218, e218, hx218_0, hx218_1, hx218_2, hx218_3, hx218_4, hx218_5, hx218_6⟩ := at_T32 (Kd.R_reads' HO_6.out).2.2 x9_3 p218 q218
                obtain rfl : ad217 = ad218 := (by injection e218)
                replace p218 := eq_true p218
                replace q218 := eq_true q218
                obtain ⟨Ao33, co33, eo33⟩ := Kd.R_slice HO_7.out
                subst eo33
                have p219 : 0 ≤ (x9_3 : Int) := of_decide_eq_true (by first | (with_reducible assumption) | assumption)
                have q219 : x9_3 < (t210.length : Int) := of_decide_eq_true (by first | (with_reducible assumption) | assumption)
                obtain ⟨ad219, e219, hx219_0, hx219_1, hx219_2, hx219_3, hx219_4, hx219_5, hx219_6⟩ := at_T32 (Kd.R_reads' HO_7.out).2.2 x9_3 p219 q219
                cases e219
                replace p219 := eq_true p219
                replace q219 := eq_true q219
                go_wp2
                go_meet
                case rel => exact ⟨_, (true), (by first | rfl | (simp; done) | (simp [*]; done)), H', ⟨by have := HJ3.out; have := HJ10.out; have := HK3.out; first | omega | exact Nat.le_refl _⟩, ⟨by (with_reducible repeat (first | apply Kd.R_alloc | apply Kd.R_drewN | apply Kd.R_drew)); exact HO_6.out⟩, ⟨by (with_reducible repeat (first | apply Kd.R_alloc | apply Kd.R_drewN | apply Kd.R_drew)); exact HO_7.out⟩, ⟨by (with_reducible repeat (first | apply Kd.R_alloc | apply Kd.R_drewN | apply Kd.R_drew)); exact HO_8.out⟩, ⟨by repeat (first | (with_reducible first | exact HB.out | apply below_alloc | apply pw_below_drewN | apply below_drew1) | exact HB.out)⟩⟩
              ·rw [if_neg c28] at H
               exact absurd H (by simp)
             ·rw [if_neg c27] at H
              have c27b0 : (((rd_T32 t207 x9_3).f0) == 1) = false := beq_eq_false_iff_ne.mpr c27
              have c27b1 : (((rd_T32 t207 x9_3).f0) != 1) = true := bne_iff_ne.mpr c27
              have H' := Aside0.mk H
              clear H
              have p218 : 0 ≤ (x9_3 : Int) := of_decide_eq_true (by first | (with_reducible assumption) | assumption)
              have q218 : x9_3 < (t207.length : Int) := of_decide_eq_true (by first | (with_reducible assumption) | assumption)
              obtain ⟨ad218, e218, hx218_0, hx218_1, hx218_2, hx218_3, hx218_4, hx218_5, hx218_6⟩ := at_T32 (Kd.R_reads' HO_6.out).2.2 x9_3 p218 q218
              obtain rfl : ad217 = ad218 := (by injection e218)
              replace p218 := eq_true p218
              replace q218 := eq_true q218
              go_wp2
              go_meet
              case rel => exact ⟨_, (true), (by first | rfl | (simp; done) | (simp [*]; done)), H', ⟨by have := HJ3.out; have := HJ10.out; have := HK3.out; first | omega | exact Nat.le_refl _⟩, ⟨by (with_reducible repeat (first | apply Kd.R_alloc | apply Kd.R_drewN | apply Kd.R_drew)); exact HO_6.out⟩, ⟨by (with_reducible repeat (first | apply Kd.R_alloc | apply Kd.R_drewN | apply Kd.R_drew)); exact HO_7.out⟩, ⟨by (with_reducible repeat (first | apply Kd.R_alloc | apply Kd.R_drewN | apply Kd.R_drew)); exact HO_8.out⟩, ⟨by repeat (first | (with_reducible first | exact HB.out | apply below_alloc | apply pw_below_drewN | apply below_drew1) | exact HB.out)⟩⟩
           case rest =>
            subst hz10
            clear HC24
            try clear c1
            try clear c2
            try clear p2
            try clear q2
            try clear hx2
            try clear c3
            try clear c6
            try clear c6b0
            try clear c6b1
            try clear c7
            try clear c9
            try clear c15
            try clear c15b0
            try clear c15b1
            try clear c15b2
            try clear c21
            try clear p21
            try clear q21
            try clear hx21
            try clear c22
            try clear c22b0
            try clear p22
            try clear q22
            try clear hx22
            try clear c23
            try clear c23b0
            try clear c26
            try clear c26b0
            try clear c26b1
            try clear c27
            try clear c27b0
            try clear c27b1
            try clear c28
            try clear c28b0
            try clear c29
            try clear c29b0
            try clear c29b1
            try clear c30
            try clear c30b0
            try clear hx217_0
            try clear hx217_1
            try clear hx217_2
            try clear hx217_3
            try clear hx217_4
            try clear hx217_5
            try clear hx217_6
            try clear hx218_0
            try clear hx218_1
            try clear hx218_2
            try clear hx218_3
            try clear hx218_4
            try clear hx218_5
            try clear hx218_6
            try clear hx219_0
            try clear hx219_1
            try clear hx219_2
            try clear hx219_3
            try clear hx219_4
            try clear hx219_5
            try clear hx219_6
            try clear hx220_0
            try clear hx220_1
            try clear hx220_2
            try clear hx220_3
            try clear hx220_4
            try clear hx220_5
            try clear hx220_6
            try clear p2
            try clear p217
            try clear p218
            try clear p219
            try clear p220
            try clear q217
            try clear q218
            try clear q219
            try clear q220
            obtain ⟨kq, x83_23, rfl, HA, HJ23, HO_6, HO_7, HO_8, HB⟩ := hcut
            cases kq with
            | zero => exact absurd HA.out (by simp [grapevinelaw08_AlignOne.j3])
            | succ kj23 =>
             have H := HA.out
             clear HA
             simp only [grapevinelaw08_AlignOne.j3] at H
             by_cases c34 : x83_23 = true
             ·subst c34
              have H1 : (some false) = some r := by rw [if_pos rfl] at H; exact H
              clear H
              have H := H1
              clear H1
              exact absurd (H.trans (congrArg some hrt_.out)) (by simp)
             ·replace c34 := Bool.eq_false_iff.mpr c34
              subst c34
              have H1 : (if (((rd_T32 t207 x9_3).f0) == 0) = true then (if 0 ≤ x9_3 then (if x9_3 < (t210.length : Int) then (if ((rd_T32 t210 x9_3).f0) = 0 then (if x9_3 < (t213.length : Int) then (if ((rd_T32 t213 x9_3).f0) = 0 then (grapevinelaw08_AlignOne.l0 kj23 l0 l1 t206 t207 t210 t213 (wrap64 (x9_3 + 1))) else (some false)) else (none)) else (some false)) else (none)) else (none)) else (grapevinelaw08_AlignOne.l0 kj23 l0 l1 t206 t207 t210 t213 (wrap64 (x9_3 + 1)))) = some r := by rw [if_neg (show ¬ (false = true) by decide)] at H; exact H
              clear H
              have H := H1
              clear H1
              by_cases c35 : (((rd_T32 t207 x9_3).f0) == 0) = true
              ·rw [if_pos c35] at H
               have c35b0 : (((rd_T32 t207 x9_3).f0) == 0) = true := c35
               (try (have c35b1 : decide (((rd_T32 t207 x9_3).f0) = 0) = true := by simpa using c35))
               (try (have c35b2 : (((rd_T32 t207 x9_3).f0) == 0) = true := by simpa using c35))
               clear c35
               by_cases c36 : 0 ≤ x9_3
               ·rw [if_pos c36] at H
                have c36b0 : decide (0 ≤ x9_3) = true := decide_eq_true c36
                clear c36
                by_cases c37 : x9_3 < (t210.length : Int)
                ·rw [if_pos c37] at H
                 have c37b0 : decide (x9_3 < (t210.length : Int)) = true := decide_eq_true c37
                 clear c37
                 by_cases c38 : ((rd_T32 t210 x9_3).f0) = 0
                 ·rw [if_pos c38] at H
                  have c38b0 : (((rd_T32 t210 x9_3).f0) == 0) = true := beq_iff_eq.mpr c38
                  have c38b1 : (((rd_T32 t210 x9_3).f0) != 0) = false := bne_eq_false_iff_eq.mpr c38
                  clear c38
                  by_cases c39 : x9_3 < (t213.length : Int)
                  ·rw [if_pos c39] at H
                   have c39b0 : decide (x9_3 < (t213.length : Int)) = true := decide_eq_true c39
                   clear c39
                   by_cases c40 : ((rd_T32 t213 x9_3).f0) = 0
                   ·rw [if_pos c40] at H
                    have c40b0 : (((rd_T32 t213 x9_3).f0) == 0) = true := beq_iff_eq.mpr c40
                    have c40b1 : (((rd_T32 t213 x9_3).f0) != 0) = false := bne_eq_false_iff_eq.mpr c40
                    clear c40
                    have H' := Aside0.mk H
                    clear H
                    obtain ⟨Ao41, co41, eo41⟩ := Kd.R_slice HO_7.out
                    subst eo41
                    have p221 : 0 ≤ (x9_3 : Int) := of_decide_eq_true (by first | (with_reducible assumption) | assumption)
                    have q221 : x9_3 < (t210.length : Int) := of_decide_eq_true (by first | (with_reducible assumption) | assumption)
                    obtain ⟨ad221, e221, hx221_0, hx221_1, hx221_2, hx221_3, hx221_4, hx221_5, hx221_6⟩ := at_T32 (Kd.R_reads' HO_7.out).2.2 x9_3 p221 q221
                    cases e221
                    replace p221 := eq_true p221
                    replace q221 := eq_true q221
                    obtain ⟨Ao42, co42, eo42⟩ := Kd.R_slice HO_8.out
                    subst eo42
                    have p222 : 0 ≤ (x9_3 : Int) := of_decide_eq_true (by first | (with_reducible assumption) | assumption)
                    have q222 : x9_3 < (t213.length : Int) := of_decide_eq_true (by first | (with_reducible assumption) | assumption)
                    obtain ⟨ad222, e222, hx222_0, hx222_1, hx222_2, hx222_3, hx222_4, hx222_5, hx222_6⟩ := at_T32 (Kd.R_reads' HO_8.out).2.2 x9_3 p222 q222
                    cases e222
                    replace p222 := eq_true p222
                    replace q222 := eq_true q222
                    go_wp2
                    go_roundg kj23
                    case measure => have := HJ3.out; have := HJ10.out; have := HK3.out; have := HJ23.out; omega
                    case rel => exact ⟨(wrap64 (x9_3 + 1)), (by first | rfl | (simp; done) | (simp [*]; done)), H', ⟨by have := HJ3.out; have := HJ10.out; have := HK3.out; have := HJ23.out; omega⟩, ⟨by (with_reducible repeat (first | apply Kd.R_alloc | apply Kd.R_drewN | apply Kd.R_drew)); exact HO_6.out⟩, ⟨by (with_reducible repeat (first | apply Kd.R_alloc | apply Kd.R_drewN | apply Kd.R_drew)); exact HO_7.out⟩, ⟨by (with_reducible repeat (first | apply Kd.R_alloc | apply Kd.R_drewN | apply Kd.R_drew)); exact HO_8.out⟩, ⟨by repeat (first | (with_reducible first | exact HB.out | apply below_alloc | apply pw_below_drewN | apply below_drew1) | exact HB.out)⟩⟩
                   ·rw [if_neg c40] at H
                    have c40b0 : (((rd_T32 t213 x9_3).f0) == 0) = false := beq_eq_false_iff_ne.mpr c40
                    have c40b1 : (((rd_T32 t213 x9_3).f0) != 0) = true := bne_iff_ne.mpr c40
                    exact absurd (H.trans (congrArg some hrt_.out)) (by simp)
                  ·rw [if_neg c39] at H
                   exact absurd H (by simp)
                 ·rw [if_neg c38] at H
                  have c38b0 : (((rd_T32 t210 x9_3).f0) == 0) = false := beq_eq_false_iff_ne.mpr c38
                  have c38b1 : (((rd_T32 t210 x9_3).f0) != 0) = true := bne_iff_ne.mpr c38
                  exact absurd (H.trans (congrArg some hrt_.out)) (by simp)
                ·rw [if_neg c37] at H
                 exact absurd H (by simp)
               ·rw [if_neg c36] at H
                exact absurd H (by simp)
              ·rw [if_neg c35] at H
               have c35b0 : (((rd_T32 t207 x9_3).f0) == 0) = false := by simpa using c35
               (try (have c35b1 : decide (((rd_T32 t207 x9_3).f0) = 0) = false := by simpa using c35))
               (try (have c35b2 : (((rd_T32 t207 x9_3).f0) == 0) = false := by simpa using c35))
               (try (have c35b3 : ¬ (((rd_T32 t207 x9_3).f0) = 0) := by simpa using c35))
               clear c35
               have H' := Aside0.mk H
               clear H
               go_wp2
               go_roundg kj23
               case measure => have := HJ3.out; have := HJ10.out; have := HK3.out; have := HJ23.out; omega
               case rel => exact ⟨(wrap64 (x9_3 + 1)), (by first | rfl | (simp; done) | (simp [*]; done)), H', ⟨by have := HJ3.out; have := HJ10.out; have := HK3.out; have := HJ23.out; omega⟩, ⟨by (with_reducible repeat (first | apply Kd.R_alloc | apply Kd.R_drewN | apply Kd.R_drew)); exact HO_6.out⟩, ⟨by (with_reducible repeat (first | apply Kd.R_alloc | apply Kd.R_drewN | apply Kd.R_drew)); exact HO_7.out⟩, ⟨by (with_reducible repeat (first | apply Kd.R_alloc | apply Kd.R_drewN | apply Kd.R_drew)); exact HO_8.out⟩, ⟨by repeat (first | (with_reducible first | exact HB.out | apply below_alloc | apply pw_below_drewN | apply below_drew1) | exact HB.out)⟩⟩
          ·rw [if_neg c23] at H
           exact absurd H (by simp)
         ·rw [if_neg c22] at H
          have c22b0 : decide (x9_3 < (t207.length : Int)) = false := decide_eq_false c22
          clear c22
          replace H := Option.bind_eq_some_iff.mp H
          obtain ⟨t216, A430, H⟩ := H
          replace H : (if t206 = true then (if t216 = true then (some (decide ((t207.length : Int) ≤ 1))) else (some true)) else (some false)) = some r := H
          have A43 := Aside0.mk A430
          clear A430
          by_cases c44 : t206 = true
          ·subst c44
           have H1 : (if t216 = true then (some (decide ((t207.length : Int) ≤ 1))) else (some true)) = some r := by rw [if_pos rfl] at H; exact H
           clear H
           have H := H1
           clear H1
           by_cases c45 : t216 = true
           ·subst c45
            have H1 : (some (decide ((t207.length : Int) ≤ 1))) = some r := by rw [if_pos rfl] at H; exact H
            clear H
            have H := H1
            clear H1
            obtain rfl := Option.some.inj H
            obtain ⟨Ao46, co46, eo46⟩ := Kd.R_slice HO_6.out
            subst eo46
            go_wp2_with (first | ((with_reducible refine gate_callee (f := 13) rfl ?_); refine goesL_ (some 103) rfl rfl Try.func13 (by kernel_rfl) rfl #[.slice A0 l0.length c0, .slice A1 l1.length c1] rfl (by (try simp only [List.map_toArray, List.map_cons, List.map_nil]); first | done | rfl | (simp only [List.length_drop, List.length_take]; rfl)) ?_; (with_reducible refine (grapevineref01_Texts.calls k3 _ _ l0 _ _ l1 true _ ?side1 ?side2 ?side3 ?side4 A43.out).mono ?_); (case side1 => repeat (first | exact (Kd.C_below HR0.out HB.out) | (with_reducible refine Kd.C_alloc ?_ _) | (with_reducible refine Kd.C_drewN ?_ _) | (with_reducible refine Kd.C_drew ?_))); (case side2 => exact HC0.out); (case side3 => repeat (first | exact (Kd.C_below HR1.out HB.out) | (with_reducible refine Kd.C_alloc ?_ _) | (with_reducible refine Kd.C_drewN ?_ _) | (with_reducible refine Kd.C_drew ?_))); (case side4 => exact HC1.out); rintro e w' ⟨rfl, ⟨nd, rfl⟩⟩; refine ⟨_, rfl, ?_⟩))
            go_ret
            exact ⟨by first | rfl | (simp [errW_none, errW_some] <;> rfl) | (simp [*, errW_none, errW_some] <;> rfl), by repeat (first | (with_reducible first | exact HB.out | apply below_alloc | apply pw_below_drewN | apply below_drew1) | exact HB.out)⟩
           ·replace c45 := Bool.eq_false_iff.mpr c45
            subst c45
            have H1 : (some true) = some r := by rw [if_neg (show ¬ (false = true) by decide)] at H; exact H
            clear H
            have H := H1
            clear H1
            obtain rfl := Option.some.inj H
            obtain ⟨Ao47, co47, eo47⟩ := Kd.R_slice HO_6.out
            subst eo47
            go_wp2_with (first | ((with_reducible refine gate_callee (f := 13) rfl ?_); refine goesL_ (some 103) rfl rfl Try.func13 (by kernel_rfl) rfl #[.slice A0 l0.length c0, .slice A1 l1.length c1] rfl (by (try simp only [List.map_toArray, List.map_cons, List.map_nil]); first | done | rfl | (simp only [List.length_drop, List.length_take]; rfl)) ?_; (with_reducible refine (grapevineref01_Texts.calls k3 _ _ l0 _ _ l1 false _ ?side1 ?side2 ?side3 ?side4 A43.out).mono ?_); (case side1 => repeat (first | exact (Kd.C_below HR0.out HB.out) | (with_reducible refine Kd.C_alloc ?_ _) | (with_reducible refine Kd.C_drewN ?_ _) | (with_reducible refine Kd.C_drew ?_))); (case side2 => exact HC0.out); (case side3 => repeat (first | exact (Kd.C_below HR1.out HB.out) | (with_reducible refine Kd.C_alloc ?_ _) | (with_reducible refine Kd.C_drewN ?_ _) | (with_reducible refine Kd.C_drew ?_))); (case side4 => exact HC1.out); rintro e w' ⟨rfl, ⟨nd, rfl⟩⟩; refine ⟨_, rfl, ?_⟩))
            go_ret
            exact ⟨by first | rfl | (simp [errW_none, errW_some] <;> rfl) | (simp [*, errW_none, errW_some] <;> rfl), by repeat (first | (with_reducible first | exact HB.out | apply below_alloc | apply pw_below_drewN | apply below_drew1) | exact HB.out)⟩
          ·replace c44 := Bool.eq_false_iff.mpr c44
           subst c44
           have H1 : (some false) = some r := by rw [if_neg (show ¬ (false = true) by decide)] at H; exact H
           clear H
           have H := H1
           clear H1
           exact absurd (H.trans (congrArg some hrt_.out)) (by simp)

end Go.Proofs.Ytnmphfelebkaiaa.Pr
-- shrunk
/-
The law AlignOne answers true: the plain part.
-/
namespace Go.Proofs.Ytnmphfelebkaiaa.Pr
open Go.RowKit Go.Proofs.YtnmphfelebkaiaaW.PrintWords Go.Proofs.YtnmphfelebkaiaaW.PrintLast Go.Proofs.YtnmphfelebkaiaaW.PrintMore
set_option linter.unusedVariables false
set_option linter.unusedSimpArgs false
theorem meets_past {t many : Int} {l : List Ed} (h : okFrom (t + 1) many l = true) : meetsE t l = false := by
 cases l with
 | nil => rfl
 | cons e l =>
  have h1 := (okFrom_head h).1
  simp only [meetsE, hdE, List.getD_cons_zero, Bool.and_eq_false_iff, decide_eq_false_iff_not]
  right
  omega
theorem meets_cons (t : Int) (e : Ed) (l : List Ed) (h : e.f0 ≤ t) : meetsE t (e :: l) = true := by simp [meetsE, hdE, h]
def clOf (h0 h1 : Bool) (e : Ed) : Cl := ⟨e.f0, e.f0 + e.f1, if h0 = true then (e.f2.length : Int) - e.f1 else 0, if h1 = true then (e.f2.length : Int) - e.f1 else 0, h0, h1⟩
theorem absorb_left {fr many : Int} {e : Ed} {l : List Ed} (h : okFrom fr many (e :: l) = true) : absorb (startC (e :: l) []) (e :: l) [] = (clOf true false e, l, []) := by
 obtain ⟨h1, h2, h3, h4, h5⟩ := okFrom_head h
 have es : startC (e :: l) [] = ⟨e.f0, e.f0, 0, 0, false, false⟩ := by simp [startC, side1, hdE]
 have et : take0 ⟨e.f0, e.f0, 0, 0, false, false⟩ e = clOf true false e := by simp [take0, clOf]; omega
 rw [es, absorb_0 (meets_cons _ _ _ (Int.le_refl _))]
 have eh : hdE (e :: l) = e := rfl
 rw [eh, et, List.drop_one, List.tail_cons]
 exact absorb_no (meets_past h5) rfl
theorem absorb_right {fr many : Int} {e : Ed} {l : List Ed} (h : okFrom fr many (e :: l) = true) : absorb (startC [] (e :: l)) [] (e :: l) = (clOf false true e, [], l) := by
 obtain ⟨h1, h2, h3, h4, h5⟩ := okFrom_head h
 have es : startC [] (e :: l) = ⟨e.f0, e.f0, 0, 0, false, false⟩ := by simp [startC, side1, hdE]
 have et : take1 ⟨e.f0, e.f0, 0, 0, false, false⟩ e = clOf false true e := by simp [take1, clOf]; omega
 rw [es, absorb_1 rfl (meets_cons _ _ _ (Int.le_refl _))]
 have eh : hdE (e :: l) = e := rfl
 rw [eh, et, List.drop_one, List.tail_cons]
 exact absorb_no rfl (meets_past h5)
theorem absorb_both {fr many : Int} {e : Ed} {l : List Ed} (h : okFrom fr many (e :: l) = true) : absorb (startC (e :: l) (e :: l)) (e :: l) (e :: l) = (clOf true true e, l, l) := by
 obtain ⟨h1, h2, h3, h4, h5⟩ := okFrom_head h
 have es : startC (e :: l) (e :: l) = ⟨e.f0, e.f0, 0, 0, false, false⟩ := by simp [startC, side1, hdE]
 have et : take0 ⟨e.f0, e.f0, 0, 0, false, false⟩ e = clOf true false e := by simp [take0, clOf]; omega
 have eu : take1 (clOf true false e) e = clOf true true e := by simp [take1, clOf]
 have eh : hdE (e :: l) = e := rfl
 have ed : (e :: l).drop 1 = l := rfl
 have h6 : ∀ b, meetsE (clOf true b e).t l = false := fun b => meets_past h5
 rw [es, absorb_0 (meets_cons _ _ _ (Int.le_refl _)), eh, et, ed, absorb_1 (h6 _) (meets_cons _ _ _ (by simp only [clOf]; omega)), eh, eu, ed]
 exact absorb_no (h6 _) (h6 _)
theorem clusters_left : ∀ {l : List Ed} {fr many : Int}, okFrom fr many l = true → clusters l [] = l.map (clOf true false)
 | [], _, _, _ => clusters_nil rfl
 | e :: l, _, _, h => by
  rw [clusters_cons (by simp), absorb_left h, List.map_cons]
  exact congrArg _ (clusters_left (okFrom_head h).2.2.2.2)
theorem clusters_right : ∀ {l : List Ed} {fr many : Int}, okFrom fr many l = true → clusters [] l = l.map (clOf false true)
 | [], _, _, _ => clusters_nil rfl
 | e :: l, _, _, h => by
  rw [clusters_cons (by simp), absorb_right h, List.map_cons]
  exact congrArg _ (clusters_right (okFrom_head h).2.2.2.2)
theorem clusters_both : ∀ {l : List Ed} {fr many : Int}, okFrom fr many l = true → clusters l l = l.map (clOf true true)
 | [], _, _, _ => clusters_nil rfl
 | e :: l, _, _, h => by
  rw [clusters_cons (by simp only [List.length_cons]; omega), absorb_both h, List.map_cons]
  exact congrArg _ (clusters_both (okFrom_head h).2.2.2.2)
def Trio : List S32 → List S32 → List S32 → Prop
 | [], [], [] => True
 | x :: l, y :: m, z :: n => ((x.f0 = 0 ∧ y.f0 = 0 ∧ z.f0 = 0) ∨ (x.f0 = 1 ∧ y.f0 = 2 ∧ z.f0 = 3)) ∧ Trio l m n
 | _, _, _ => False
theorem Trio.snoc {x y z : S32} (h : (x.f0 = 0 ∧ y.f0 = 0 ∧ z.f0 = 0) ∨ (x.f0 = 1 ∧ y.f0 = 2 ∧ z.f0 = 3)) : ∀ {l m n : List S32}, Trio l m n → Trio (l ++ [x]) (m ++ [y]) (n ++ [z])
 | [], [], [], _ => ⟨h, trivial⟩
 | _ :: _, _ :: _, _ :: _, ht => ⟨ht.1, Trio.snoc h ht.2⟩
theorem Trio.len : ∀ {l m n : List S32}, Trio l m n → l.length = m.length ∧ l.length = n.length
 | [], [], [], _ => ⟨rfl, rfl⟩
 | _ :: _, _ :: _, _ :: _, ht => by
  have := Trio.len ht.2
  simp only [List.length_cons]
  omega
theorem Trio.at_ : ∀ {l m n : List S32}, Trio l m n → ∀ i, (h0 : i < l.length) → (h1 : i < m.length) → (h2 : i < n.length) → (l[i].f0 = 0 ∧ m[i].f0 = 0 ∧ n[i].f0 = 0) ∨ (l[i].f0 = 1 ∧ m[i].f0 = 2 ∧ n[i].f0 = 3)
 | _ :: _, _ :: _, _ :: _, ht, 0, _, _, _ => ht.1
 | _ :: _, _ :: _, _ :: _, ht, i + 1, h0, h1, h2 => by
  have := Trio.at_ ht.2 i (by simpa using h0) (by simpa using h1) (by simpa using h2)
  simpa using this
structure Tr (s1 s2 s3 : Rs) : Prop where
 a2 : s2.at_ = s1.at_
 a3 : s3.at_ = s1.at_
 out : Trio s1.out s2.out s3.out
 eq : s3.last.f2 = s3.last.f3
theorem Tr.gap {s1 s2 s3 : Rs} {c1 c2 c3 : Cl} (h : Tr s1 s2 s3) (e2 : c2.f = c1.f) (e3 : c3.f = c1.f) : Tr (gapR s1 c1) (gapR s2 c2) (gapR s3 c3) := by
 unfold gapR
 rw [h.a2, h.a3, e2, e3]
 split
 ·exact ⟨h.a2 ▸ rfl, h.a3 ▸ rfl, Trio.snoc (.inl ⟨rfl, rfl, rfl⟩) h.out, by simp only [addR, h.eq]⟩
 ·exact h
theorem Tr.step {o s : List ByteArray} {s1 s2 s3 : Rs} (h : Tr s1 s2 s3) (e : Ed) : Tr (stepR s o s1 (clOf true false e)) (stepR o s s2 (clOf false true e)) (stepR s s s3 (clOf true true e)) := by
 have hg : Tr (gapR s1 (clOf true false e)) (gapR s2 (clOf false true e)) (gapR s3 (clOf true true e)) := h.gap rfl rfl
 have h3 := hg.eq
 have ho := hg.out
 generalize hv : gapR s3 (clOf true true e) = v at hg h3
 refine ⟨rfl, rfl, Trio.snoc (.inr ⟨rfl, rfl, ?_⟩) ho, ?_⟩
 ·have hk : ∀ q : List ByteArray, kindP (clOf true true e) q q = 3 := fun q => by simp [kindP, clOf]
  have he : (addR (gapR s3 (clOf true true e)).last ((clOf true true e).t - (clOf true true e).f) (clOf true true e).m0 (clOf true true e).m1).f2 = (addR (gapR s3 (clOf true true e)).last ((clOf true true e).t - (clOf true true e).f) (clOf true true e).m0 (clOf true true e).m1).f3 := by
   rw [hv]
   simp only [addR, h3]
   rfl
  simp only [kinded]
  rw [he]
  exact hk _
 ·show (addR (gapR s3 (clOf true true e)).last _ _ _).f2 = (addR (gapR s3 (clOf true true e)).last _ _ _).f3
  rw [hv]
  simp only [addR, h3]
  rfl
theorem Tr.fold {o s : List ByteArray} : ∀ (l : List Ed) {s1 s2 s3 : Rs}, Tr s1 s2 s3 → Tr ((l.map (clOf true false)).foldl (stepR s o) s1) ((l.map (clOf false true)).foldl (stepR o s) s2) ((l.map (clOf true true)).foldl (stepR s s) s3)
 | [], _, _, _, h => h
 | e :: l, _, _, _, h => Tr.fold l (h.step e)
theorem Tr.end_ {n : Nat} {s1 s2 s3 : Rs} (h : Tr s1 s2 s3) : Trio (endR n s1) (endR n s2) (endR n s3) := by
 unfold endR
 rw [h.a2, h.a3]
 split
 ·exact Trio.snoc (.inl ⟨rfl, rfl, rfl⟩) h.out
 ·exact h.out
theorem regions_trio (o s : List ByteArray) : Trio (regionsP o s o) (regionsP o o s) (regionsP o s s) := by
 have hk := (between_ok o s).1
 unfold regionsP regionsR
 rw [between_self, clusters_left hk, clusters_right hk, clusters_both hk]
 have h0 : Tr ⟨z32, [], 0⟩ ⟨z32, [], 0⟩ ⟨z32, [], 0⟩ := ⟨rfl, rfl, (trivial : Trio [] [] []), rfl⟩
 exact (Tr.fold _ h0).end_
theorem regions_same (o : List ByteArray) : (regionsP o o o).length ≤ 1 := by
 unfold regionsP regionsR
 rw [between_self, clusters_nil rfl, endR]
 split
 ·exact Nat.le_refl _
 ·exact Nat.zero_le _
theorem rdR_at1 {l : List S32} {i : Nat} (h : i < l.length) : rd_T32 l (i : Int) = l[i] := by
 rw [rd_T32, Int.toNat_natCast, List.getD_eq_getElem?_getD, List.getElem?_eq_getElem h, Option.getD_some]
theorem One_l0 (o s : List ByteArray) (L R B : List S32) (hn : L.length ≤ 1099511627776) (ho : o.length ≤ 1099511627776) (ht : Trio L R B) (hs : o = s → L.length ≤ 1) : ∀ d i, L.length - i = d → i ≤ L.length →
  Ev (fun k => grapevinelaw08_AlignOne.l0 k o s true L R B (i : Int)) true := by
 obtain ⟨l1, l2⟩ := ht.len
 intro d
 induction d with
 | zero =>
  intro i hd hi
  refine Ev.step (fun _ => grapevinelaw08_AlignOne.l0.eq_2 ..) ?_
  simp only [if_neg (show ¬ (i : Int) < (L.length : Int) by omega), if_true]
  refine Ev.bind (Texts_ev o s (by omega)) ?_
  by_cases he : o = s
  ·rw [decide_eq_true he, decide_eq_true (show (L.length : Int) ≤ 1 by have := hs he; omega)]
   exact Ev.now _
  ·rw [decide_eq_false he]
   exact Ev.now _
 | succ d ih =>
  intro i hd hi
  have h0 : i < L.length := by omega
  have h1 : i < R.length := by omega
  have h2 : i < B.length := by omega
  refine Ev.step (fun _ => grapevinelaw08_AlignOne.l0.eq_2 ..) ?_
  simp only [if_pos (show (i : Int) < (L.length : Int) by omega), if_pos (show (i : Int) < (R.length : Int) by omega), if_pos (show (i : Int) < (B.length : Int) by omega), if_pos (show 0 ≤ (i : Int) by omega), rdR_at1 h0, rdR_at1 h1, rdR_at1 h2]
  rcases ht.at_ i h0 h1 h2 with ⟨k0, k1, k2⟩ | ⟨k0, k1, k2⟩
  ·simp only [k0, if_true]
   refine Ev.step (fun _ => grapevinelaw08_AlignOne.j3.eq_2 ..) ?_
   simp only [Bool.false_eq_true, if_false, beq_self_eq_true, if_true, if_pos (show (i : Int) < (R.length : Int) by omega), if_pos (show (i : Int) < (B.length : Int) by omega), if_pos (show 0 ≤ (i : Int) by omega), rdR_at1 h1, rdR_at1 h2, if_pos k1, if_pos k2, w_succ h0 (show L.length ≤ 4611686018427387904 by omega)]
   exact ih (i + 1) (by omega) (by omega)
  ·simp only [k0, k1, k2, if_true, show ¬ ((1 : Int) = 0) by decide, if_false]
   refine Ev.step (fun _ => grapevinelaw08_AlignOne.j3.eq_2 ..) ?_
   simp only [show ((3 : Int) != 3) = false from rfl, show ((1 : Int) == 0) = false from rfl, Bool.false_eq_true, if_false, w_succ h0 (show L.length ≤ 4611686018427387904 by omega)]
   exact ih (i + 1) (by omega) (by omega)
theorem AlignOne_pure (o s : List ByteArray) (yo : o.length * 16 ≤ 140737488351232) (zo : ∀ s ∈ o, s.size ≤ 140737488351232) (ys : s.length * 16 ≤ 140737488351232) (zs : ∀ x ∈ s, x.size ≤ 140737488351232) :
  ∃ k, grapevinelaw08_AlignOne.f k o s = some true := by
 refine Ev.rounds ?_
 unfold grapevinelaw08_AlignOne.f
 have j0t : Ev (fun k => grapevinelaw08_AlignOne.j0 k o s true true) true := by
  refine Ev.step (fun _ => grapevinelaw08_AlignOne.j0.eq_2 ..) ?_
  exact Ev.now _
 refine Ev.bind (a := true) (Ev.none_of fun _ => rfl) ?_
 by_cases c1 : (o.length : Int) > 30
 ·simp only [if_pos c1]
  exact j0t
 simp only [if_neg c1]
 by_cases c2 : (s.length : Int) > 30
 ·rw [decide_eq_true c2]
  exact j0t
 rw [decide_eq_false c2]
 refine Ev.step (fun _ => grapevinelaw08_AlignOne.j0.eq_2 ..) ?_
 simp only [Bool.false_eq_true, if_false]
 refine Ev.bind (Ev.none_of fun _ => regions_some o s o (by omega) (by omega) (by omega)) (Ev.bind (Ev.none_of fun _ => regions_some o o s (by omega) (by omega) (by omega)) (Ev.bind (Ev.none_of fun _ => regions_some o s s (by omega) (by omega) (by omega)) ?_))
 have ht := regions_trio o s
 obtain ⟨l1, l2⟩ := ht.len
 simp only [if_pos (show ((regionsP o s o).length : Int) = ((regionsP o o s).length : Int) by omega)]
 rw [show ((((regionsP o s o).length : Int)) != ((regionsP o s s).length : Int)) = false from bne_eq_false_iff_eq.2 (by omega)]
 refine Ev.step (fun _ => grapevinelaw08_AlignOne.j1.eq_2 ..) ?_
 simp only [Bool.false_eq_true, if_false]
 have hlen : (regionsP o s o).length ≤ 1099511627776 := by
  have hi := inv_start o s o
  obtain ⟨_, n0⟩ := between_b o s (by omega) (by omega)
  obtain ⟨_, n1⟩ := between_b o o (by omega) (by omega)
  have hf := (run_end (o := o) (a := s) (b := o) (by omega) (by omega) (by omega) _ _ _ _ _ _ _ rfl hi (by simp; omega)).1.len
  rw [regionsP, regionsR, endR]
  split
  ·rw [List.length_append, List.length_singleton]; omega
  ·omega
 exact One_l0 o s _ _ _ hlen (by omega) ht (fun e => by subst e; exact regions_same o) _ 0 rfl (by omega)
end Go.Proofs.Ytnmphfelebkaiaa.Pr
-- shrunk
/-
Arguments that are slices of whatever kind, opened, with the sizes of all that is read behind them. General: no program in sight.
-/
namespace Go.Proofs.Ytnmphfelebkaiaa.Pr
open Go.RowKit Go.Proofs.YtnmphfelebkaiaaW.PrintWords Go.Proofs.YtnmphfelebkaiaaW.PrintLast Go.Proofs.YtnmphfelebkaiaaW.PrintMore
open Go.ChangeShapes Go.WideShapes Go.Deep
def Rz (P : Program) {α : Type} (d : Kd α) (S : α → Prop) (t : TypeId) : Prop :=
 ∀ (H : Type) (enc : TypeId × Value → H) (w : World) (base : Nat) (spare : Nat → Bool) (held : Bool) (fuel : Nat) (cs : List Value) (x : DataW H × List MemPlace),
  DataW.trod enc P w base spare held fuel t cs = some x → (∀ n ∈ x.1.weights P t, n ≤ 140737488351232) → ∃ y, d.K w y cs ∧ S y
theorem Rz.int {P : Program} {t : TypeId} {k : IntKind} (hu : P.underlying t = some (.int k)) : Rz P (Kd.int k) (fun n => (Lit.int k n).wf = true) t := fun H enc w base spare held fuel cs x h _ => by
 obtain ⟨n, rfl, _, hw⟩ := DataW.trod_int hu h
 exact ⟨n, rfl, hw⟩
theorem Rz.string {P : Program} {t : TypeId} (hu : P.underlying t = some .string) : Rz P Kd.string (fun s => s.size ≤ 140737488351232) t := fun H enc w base spare held fuel cs x h hz => by
 obtain ⟨s, rfl, rfl, _⟩ := DataW.trod_string hu h
 refine ⟨s, rfl, ?_⟩
 have := hz s.data.toList.length (by simp [DataW.weights])
 simpa using this
theorem weights_mem_all {H : Type} {P : Program} {e : TypeId} : ∀ {l : List (DataW H)} {d : DataW H}, d ∈ l → ∀ n ∈ d.weights P e, n ∈ DataW.weightsAll P e l
 | c :: l, d, hd, n, hn => by
  simp only [DataW.weightsAll, List.mem_append]
  rcases List.mem_cons.1 hd with rfl | hd
  ·exact Or.inl hn
  ·exact Or.inr (weights_mem_all hd n hn)
theorem Rz.slice {P : Program} {α : Type} {d : Kd α} {S : α → Prop} {t e : TypeId} {B : Nat} (hu : P.underlying t = some (.slice e)) (hc : P.cellsOf e = d.sz) (hB : P.bytesOf e = B) (hd : Rz P d S e) :
  Rz P (Kd.slice e d) (fun xs => xs.length * B ≤ 140737488351232 ∧ ∀ y ∈ xs, S y) t := fun H enc w base spare held fuel cs x h hz => by
 rcases open_slice hu h with ⟨rfl, _⟩ | ⟨a, len, cap, m, n, D, Pl, rfl, hb, hl, hm, hmm, rfl, hx⟩
 ·exact ⟨[], ⟨none, 0, rfl, Nat.le_refl _, rfl, by simp, fun h0 => absurd h0 (Nat.lt_irrefl _)⟩, by simp, by simp⟩
 ·have hlm : len ≤ m := by rw [hmm]; split <;> omega
  have hw0 : len * B ≤ 140737488351232 := by
   have h1 := hz ((((List.range len).map D).length + ((List.range (m - len)).map fun j => D (len + j)).length) * P.bytesOf e) (by simp [DataW.weights, hu])
   rw [hB] at h1
   simp only [List.length_map, List.length_range] at h1
   exact Nat.le_trans (Nat.mul_le_mul_right _ (Nat.le_add_right _ _)) h1
  have hw1 : ∀ i, i < len → ∀ q ∈ (D i).weights P e, q ≤ 140737488351232 := fun i hi q hq => by
   refine hz q ?_
   simp only [DataW.weights, hu, List.mem_cons, List.mem_append]
   exact Or.inr (Or.inl (weights_mem_all (List.mem_map.2 ⟨i, List.mem_range.2 hi, rfl⟩) q hq))
  have key : ∀ k, k ≤ len → ∃ xs : List α, xs.length = k ∧ (∀ y ∈ xs, S y) ∧ ∀ j p, xs[j]? = some p → ∃ c, c.length = d.sz ∧ d.K w p c ∧ ∀ i u, c[i]? = some u → w.cell? (a.add (j * d.sz + i)) = some u := by
   intro k
   induction k with
   | zero => exact fun _ => ⟨[], rfl, by simp, fun j p hj => by simp at hj⟩
   | succ k ih =>
    intro hk
    obtain ⟨xs, hxl, hS, hxs⟩ := ih (by omega)
    obtain ⟨cs', h1, h2⟩ := hx k (by omega)
    obtain ⟨y, hy, hSy⟩ := hd H enc w base spare held n cs' _ h2 (hw1 k (by omega))
    obtain ⟨_, hlen, hcell⟩ := World.cells?_some h1
    refine ⟨xs ++ [y], by simp [hxl], fun z hz => ?_, fun j p hj => ?_⟩
    ·rcases List.mem_append.1 hz with hz | hz
     ·exact hS z hz
     ·rw [List.mem_singleton.1 hz]; exact hSy
    by_cases hjk : j < k
    ·rw [List.getElem?_append_left (by omega)] at hj
     exact hxs j p hj
    ·have hj' : j = k := by
      have : j < (xs ++ [y]).length := by
       rcases Nat.lt_or_ge j (xs ++ [y]).length with h | h
       ·exact h
       ·rw [List.getElem?_eq_none h] at hj; cases hj
      simp [hxl] at this; omega
     subst hj'
     rw [List.getElem?_append_right (by omega), hxl, Nat.sub_self] at hj
     obtain rfl := Option.some.inj hj
     refine ⟨cs', by rw [hlen, hc], hy, fun i u hi => ?_⟩
     have hlt : i < cs'.length := by
      rcases Nat.lt_or_ge i cs'.length with h | h
      ·exact h
      ·rw [List.getElem?_eq_none h] at hi; cases hi
     rw [← hc, ← Deep.add_add, hcell i (by omega), hi]
  obtain ⟨xs, rfl, hS, hxs⟩ := key len (Nat.le_refl _)
  exact ⟨xs, ⟨some a, cap, rfl, hl, rfl, by unfold maxLen at hm; omega, fun _ => ⟨a, rfl, hxs⟩⟩, hw0, hS⟩
inductive RzF (P : Program) : {α : Type} → Kd α → (α → Prop) → Nat → List Field → Prop
 | last {α : Type} {d : Kd α} {S : α → Prop} {f : Field} {off : Nat} : f.offset = off → P.cellsOf f.type = d.sz → Rz P d S f.type → RzF P d S off [f]
 | cons {α β : Type} {a : Kd α} {b : Kd β} {S : α → Prop} {U : β → Prop} {f : Field} {fs : List Field} {off : Nat} : f.offset = off → P.cellsOf f.type = a.sz → Rz P a S f.type → RzF P b U (off + a.sz) fs → RzF P (Kd.pair a b) (fun x => S x.1 ∧ U x.2) off (f :: fs)
theorem RzF.read {P : Program} {H : Type} {enc : TypeId × Value → H} {w : World} {base : Nat} {spare : Nat → Bool} {held : Bool} {cs : List Value} {α : Type} {d : Kd α} {S : α → Prop} {off : Nat} {fs : List Field} (h : RzF P d S off fs) :
  (∀ f ∈ fs, ∃ n x, DataW.trod enc P w base spare held n f.type ((cs.drop f.offset).take (P.cellsOf f.type)) = some x ∧ ∀ q ∈ x.1.weights P f.type, q ≤ 140737488351232) → ∃ y, d.K w y ((cs.drop off).take d.sz) ∧ S y := by
 induction h with
 | last ho hc hr =>
  intro hf
  obtain ⟨n, x, hx, hw⟩ := hf _ (List.mem_singleton.2 rfl)
  rw [ho, hc] at hx
  exact hr H enc w base spare held n _ x hx hw
 | @cons α β a b S U f fs off ho hc hr _ ih =>
  intro hf
  obtain ⟨n, x, hx, hw⟩ := hf _ List.mem_cons_self
  rw [ho, hc] at hx
  obtain ⟨y0, h0, s0⟩ := hr H enc w base spare held n _ x hx hw
  obtain ⟨y1, h1, s1⟩ := ih (fun g hg => hf g (List.mem_cons_of_mem _ hg))
  refine ⟨(y0, y1), ⟨_, _, ?_, h0, h1⟩, s0, s1⟩
  show List.take (a.sz + b.sz) _ = _
  rw [List.take_add, List.drop_drop]
theorem Rz.struct {P : Program} {α : Type} {d : Kd α} {S : α → Prop} {t : TypeId} {fs : Array Field} (hu : P.underlying t = some (.struct fs)) (hc : P.cellsOf t = d.sz) (hf : RzF P d S 0 fs.toList) : Rz P d S t := fun H enc w base spare held fuel cs x h hz => by
 obtain ⟨xs, n, _, rfl, hl, hlen, hx⟩ := DataW.trod_struct hu h
 have h2 := hf.read (enc := enc) (w := w) (base := base) (spare := spare) (held := held) (cs := cs) (fun f hm => by
  obtain ⟨i, hi, he⟩ := List.mem_iff_getElem.1 hm
  have h3 := hx i f (by rw [← he]; simp)
  have hi' : i < xs.length := by rw [hlen]; simpa using hi
  rw [List.getElem?_eq_getElem hi'] at h3
  refine ⟨n, _, h3, fun q hq => hz q ?_⟩
  simp only [DataW.weights, hu]
  refine DataW.weights_mem_each (j := i) (t := f.type) (d := xs[i].1) ?_ ?_ q hq
  ·rw [List.getElem?_map, List.getElem?_eq_getElem hi, he]; rfl
  ·rw [List.getElem?_map, List.getElem?_eq_getElem hi']; rfl)
 rw [List.drop_zero, List.take_of_length_le (by omega)] at h2
 exact h2
theorem Rz.iso {P : Program} {α β : Type} {d : Kd α} {S : α → Prop} {f : β → α} {t : TypeId} (h : Rz P d S t) (g : ∀ y, ∃ x, f x = y) : Rz P (Kd.iso d f) (fun x => S (f x)) t := fun H enc w base spare held fuel cs x hx hz => by
 obtain ⟨y, hy, hs⟩ := h H enc w base spare held fuel cs x hx hz
 obtain ⟨z, rfl⟩ := g y
 exact ⟨z, hy, hs⟩
theorem Rz.mono {P : Program} {α : Type} {d : Kd α} {S S' : α → Prop} {t : TypeId} (h : Rz P d S t) (g : ∀ x, S x → S' x) : Rz P d S' t := fun H enc w base spare held fuel cs x hx hz => by
 obtain ⟨y, hy, hs⟩ := h H enc w base spare held fuel cs x hx hz
 exact ⟨y, hy, g y hs⟩
theorem open_rowz {P : Program} {α : Type} {d : Kd α} {S : α → Prop} {t e : TypeId} {B : Nat} {H : Type} {enc : TypeId × Value → H} {w : World} {r : Reach} {b0 base : Nat} {spare : Nat → Bool} {held : Bool} {v : Value} {x : DataW H} {ps : List MemPlace} {ts : List TypeId} {ds : List (DataW H)} {j : Nat}
  (hsz : (DataW.weightsEach P ts ds).all (· ≤ reachBytes) = true) (ht : ts[j]? = some t) (hdj : ds[j]? = some x)
  (hu : P.underlying t = some (.slice e)) (hc : P.cellsOf e = d.sz) (hB : P.bytesOf e = B) (hd : Rz P d S e) (hval : Value.okWide P w r b0 t v) (h : DataW.Trod enc P w base spare held t v x ps) :
  ∃ (A : Option Addr) (c : Nat) (xs : List α), v = .slice A xs.length c ∧ xs.length ≤ c ∧ d.C w A xs.length xs ∧ xs.length * B ≤ 140737488351232 ∧ ∀ y ∈ xs, S y := by
 obtain ⟨a, len, cap, rfl⟩ := okWide_slice hu hval
 obtain ⟨fuel, hf⟩ := h
 obtain ⟨xs, ⟨A, c, hcs, hl, hC⟩, hb, hS⟩ := Rz.slice hu hc hB hd H enc w base spare held fuel _ _ hf (fun n hn => by
  have := List.all_eq_true.1 hsz _ (DataW.weights_mem_each ht hdj n hn)
  have h2 : n ≤ reachBytes := by simpa using this
  exact h2)
 simp [Value.cells] at hcs
 obtain ⟨rfl, rfl, rfl⟩ := hcs
 exact ⟨_, _, xs, rfl, hl, hC, hb, hS⟩
end Go.Proofs.Ytnmphfelebkaiaa.Pr
-- shrunk
/-
The kinds of the lower layers' arguments, with sizes: lists of texts, edits.
-/
namespace Go.Proofs.Ytnmphfelebkaiaa.Pr
open Go.RowKit Go.Proofs.YtnmphfelebkaiaaW.PrintWords Go.Proofs.YtnmphfelebkaiaaW.PrintLast Go.Proofs.YtnmphfelebkaiaaW.PrintMore
theorem rz_string : Rz Try.prog Kd.string (fun s => s.size ≤ 140737488351232) 9 := Rz.string (by kernel_rfl)
end Go.Proofs.Ytnmphfelebkaiaa.Pr
-- shrunk
