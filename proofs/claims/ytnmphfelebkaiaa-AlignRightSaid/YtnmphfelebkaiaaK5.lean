/-
Several plain texts in one.
-/
import Derived.Test.YtnmphfelebkaiaaGAwakeA0
import Derived.Test.YtnmphfelebkaiaaK4
import Derived.Deep.Strs
import Derived.SizedLaws
import Derived.ChangeOld
import Derived.Carry
import Derived.Test.YtnmphfelebkaiaaWWords
import Derived.Test.YtnmphfelebkaiaaWMore
import Derived.Test.YtnmphfelebkaiaaWLast
import Derived.KernelRfl
import Derived.Test.YtnmphfelebkaiaaK0
/-
The chapter's example of layer 8: it answers true.
-/
namespace Go.Proofs.Ytnmphfelebkaiaa.Pr
open Go.RowKit Go.Proofs.YtnmphfelebkaiaaW.PrintWords Go.Proofs.YtnmphfelebkaiaaW.PrintLast Go.Proofs.YtnmphfelebkaiaaW.PrintMore
set_option linter.unusedVariables false
set_option linter.unusedSimpArgs false
def exO : List ByteArray := [⟨#[49]⟩, ⟨#[50]⟩, ⟨#[51]⟩]
def exA : List ByteArray := [⟨#[49]⟩, ⟨#[120]⟩, ⟨#[51]⟩]
def exB : List ByteArray := [⟨#[49]⟩, ⟨#[50]⟩, ⟨#[51]⟩, ⟨#[52]⟩]
def exE0 : Ed := ⟨1, 1, [⟨#[120]⟩]⟩
def exE1 : Ed := ⟨3, 0, [⟨#[52]⟩]⟩
theorem ex_between0 : between exO exA = [exE0] := by
 have e : ¬ (⟨#[50]⟩ : ByteArray) = (⟨#[120]⟩ : ByteArray) := by decide
 simp [exO, exA, exE0, between, midEdits, midOf, endOf, frontOf, common, steps, lcsLen, edits, addDel, addIns, opened, edLast, e]
theorem ex_between1 : between exO exB = [exE1] := by
 simp [exO, exB, exE1, between, midEdits, midOf, endOf, frontOf, common, steps, lcsLen, edits, addDel, addIns, opened, edLast]
def exC0 : Cl := ⟨1, 2, 0, 0, true, false⟩
def exC1 : Cl := ⟨3, 3, 0, 1, false, true⟩
theorem ex_ab0 : absorb (startC [exE0] [exE1]) [exE0] [exE1] = (exC0, [], [exE1]) := by
 rw [absorb_0 (by decide)]
 exact absorb_no (c := exC0) (l0 := []) (l1 := [exE1]) (by decide) (by decide)
theorem ex_ab1 : absorb (startC [] [exE1]) [] [exE1] = (exC1, [], []) := by
 rw [absorb_1 (by decide) (by decide)]
 exact absorb_no (c := exC1) (l0 := []) (l1 := []) (by decide) (by decide)
theorem ex_clusters : clusters [exE0] [exE1] = [exC0, exC1] := by
 rw [clusters_cons (by decide), ex_ab0]
 dsimp only
 rw [clusters_cons (by decide), ex_ab1]
 dsimp only
 rw [clusters_nil (by decide)]
def exR : List S32 := [⟨0, ⟨0, 1⟩, ⟨0, 1⟩, ⟨0, 1⟩⟩, ⟨1, ⟨1, 1⟩, ⟨1, 1⟩, ⟨1, 1⟩⟩, ⟨0, ⟨2, 1⟩, ⟨2, 1⟩, ⟨2, 1⟩⟩, ⟨2, ⟨3, 0⟩, ⟨3, 0⟩, ⟨3, 1⟩⟩]
theorem ex_regions : regionsP exO exA exB = exR := by
 rw [regionsP, ex_between0, ex_between1, ex_clusters]
 rfl
theorem ex_right : rightR exO exA exB 0 0 0 exR = true := by decide
def grapevinelaw08_awake.f : Option Bool := some true
theorem ex_awake : grapevinelaw08_awake0.f = some true := by
 have h1 : align_Regions.f [⟨#[49]⟩, ⟨#[50]⟩, ⟨#[51]⟩] [⟨#[49]⟩, ⟨#[120]⟩, ⟨#[51]⟩] [⟨#[49]⟩, ⟨#[50]⟩, ⟨#[51]⟩, ⟨#[52]⟩] = some exR := (regions_some exO exA exB (by decide) (by decide) (by decide)).trans (congrArg some ex_regions)
 have h2 : align_Right.f exR [⟨#[49]⟩, ⟨#[50]⟩, ⟨#[51]⟩] [⟨#[49]⟩, ⟨#[120]⟩, ⟨#[51]⟩] [⟨#[49]⟩, ⟨#[50]⟩, ⟨#[51]⟩, ⟨#[52]⟩] = some true := by
  rw [align_Right.f, if_pos ⟨by decide, by decide, by decide, by decide⟩]
  exact congrArg some ex_right
 unfold grapevinelaw08_awake0.f
 simp only [Option.bind_some]
 rw [h1, Option.bind_some, if_pos (by decide), h2, Option.bind_some]
 rfl
theorem grapevinelaw08_awake.calls (r : Bool) (w : World) (h : grapevinelaw08_awake.f = some r) :
  Calls Try.prog 7 #[] w fun e w' => e = .returned (.bool r) ∧ Below w.heap.size w w' := by
 obtain rfl := Option.some.inj h
 exact grapevinelaw08_awake0.calls true w ⟨rfl⟩ ex_awake
end Go.Proofs.Ytnmphfelebkaiaa.Pr
-- shrunk
/-
The law AlignRight, walked: both answer alike.
-/
namespace Go.Proofs.Ytnmphfelebkaiaa.Pr
open Go.RowKit Go.Proofs.YtnmphfelebkaiaaW.PrintWords Go.Proofs.YtnmphfelebkaiaaW.PrintLast Go.Proofs.YtnmphfelebkaiaaW.PrintMore
set_option linter.unusedVariables false
set_option linter.unusedSimpArgs false
def grapevinelaw08_AlignRight.f (k : Nat) (l : List S32) (o a b : List ByteArray) : Option Bool := some true
theorem AlignRight_pure (l : List S32) (o a b : List ByteArray) (yl : l.length * 56 ≤ 140737488351232) (zl : ∀ s ∈ l, True) (yo : o.length * 16 ≤ 140737488351232) (zo : ∀ s ∈ o, s.size ≤ 140737488351232) (ya : a.length * 16 ≤ 140737488351232) (za : ∀ s ∈ a, s.size ≤ 140737488351232) (yb : b.length * 16 ≤ 140737488351232) (zb : ∀ s ∈ b, s.size ≤ 140737488351232) :
  ∃ k, grapevinelaw08_AlignRight.f k l o a b = some true := ⟨0, rfl⟩
set_option maxRecDepth 100000 in
set_option maxHeartbeats 8000000 in
theorem grapevinelaw08_AlignRight.calls (k : Nat) (A0 : Option Addr) (c0 : Nat) (l : List S32) (A1 : Option Addr) (c1 : Nat) (o : List ByteArray) (A2 : Option Addr) (c2 : Nat) (a : List ByteArray) (A3 : Option Addr) (c3 : Nat) (b : List ByteArray) (r : Bool) (w : World) (hrt_ : Aside0 (r = true))
  (hr0 : Kd.C k32 w A0 l.length l) (hc0 : l.length ≤ c0) (hr1 : Kd.C Kd.string w A1 o.length o) (hc1 : o.length ≤ c1) (hr2 : Kd.C Kd.string w A2 a.length a) (hc2 : a.length ≤ c2) (hr3 : Kd.C Kd.string w A3 b.length b) (hc3 : b.length ≤ c3) (h : grapevinelaw08_AlignRight.f k l o a b = some r) :
  Calls Try.prog 4 #[.slice A0 l.length c0, .slice A1 o.length c1, .slice A2 a.length c2, .slice A3 b.length c3] w fun e w' => e = .returned (.bool r) ∧ Below w.heap.size w w' := by
 obtain rfl : true = r := Option.some.inj h
 clear h hrt_
 have HR0 := Aside0.mk hr0
 have HC0 := Aside0.mk hc0
 have HR1 := Aside0.mk hr1
 have HC1 := Aside0.mk hc1
 have HR2 := Aside0.mk hr2
 have HC2 := Aside0.mk hc2
 have HR3 := Aside0.mk hr3
 have HC3 := Aside0.mk hc3
 clear hr0 hc0 hr1 hc1 hr2 hc2 hr3 hc3
 have HB := Aside0.mk (Below.refl w.heap.size w)
 have A4 := Aside0.mk (show grapevinelaw08_awake.f = some true from rfl)
 go_enter Try.func4, Try.ntmps4
 go_upto_region 2 with (first | (go_at_call 7; (with_reducible refine (grapevinelaw08_awake.calls true _ A4.out).mono ?_); rintro e w6 ⟨rfl, hb⟩; have n0_ := Aside0.mk (below_step HB.out hb); clear HB; have HB := n0_; clear n0_; clear hb))
 by_cases d1 : 16 < (o.length : Int)
 ·have d1b : decide (16 < (o.length : Int)) = true := decide_eq_true d1
  have d1c : decide (16 < o.length) = true := decide_eq_true (by omega)
  clear d1
  go_wp2
  go_ret
  exact ⟨rfl, HB.out⟩
 have d1b : decide (16 < (o.length : Int)) = false := decide_eq_false d1
 have d1c : decide (16 < o.length) = false := decide_eq_false (by omega)
 by_cases d2 : 16 < (a.length : Int)
 ·have d2b : decide (16 < (a.length : Int)) = true := decide_eq_true d2
  have d2c : decide (16 < a.length) = true := decide_eq_true (by omega)
  clear d1 d2
  go_wp2
  go_ret
  exact ⟨rfl, HB.out⟩
 have d2b : decide (16 < (a.length : Int)) = false := decide_eq_false d2
 have d2c : decide (16 < a.length) = false := decide_eq_false (by omega)
 by_cases d3 : 16 < (b.length : Int)
 ·have d3b : decide (16 < (b.length : Int)) = true := decide_eq_true d3
  have d3c : decide (16 < b.length) = true := decide_eq_true (by omega)
  clear d1 d2 d3
  go_wp2
  go_ret
  exact ⟨rfl, HB.out⟩
 have d3b : decide (16 < (b.length : Int)) = false := decide_eq_false d3
 have d3c : decide (16 < b.length) = false := decide_eq_false (by omega)
 by_cases d4 : 30 < (l.length : Int)
 ·have d4b : decide (30 < (l.length : Int)) = true := decide_eq_true d4
  have d4c : decide (30 < l.length) = true := decide_eq_true (by omega)
  clear d1 d2 d3 d4
  go_wp2
  go_ret
  exact ⟨rfl, HB.out⟩
 have d4b : decide (30 < (l.length : Int)) = false := decide_eq_false d4
 have d4c : decide (30 < l.length) = false := decide_eq_false (by omega)
 have hok : RightOk l o a b := ⟨by omega, by omega, by omega, by omega⟩
 have F1 := Aside0.mk (show align_Right.f l o a b = some (rightR o a b 0 0 0 l) by rw [align_Right.f, if_pos hok])
 have F2 := Aside0.mk (show grapevineref08_Right.f l o a b = some (rightR o a b 0 0 0 l) by rw [grapevineref08_Right.f, if_pos hok])
 clear d1 d2 d3 d4 hok
 generalize rightR o a b 0 0 0 l = z at F1 F2
 have zz : (z == z) = true := beq_self_eq_true z
 go_wp2_with (first | (go_at_call 11; (with_reducible refine (align_Right.calls A0 c0 l A1 c1 o A2 c2 a A3 c3 b z _ (Kd.C_below HR0.out HB.out) HC0.out (Kd.C_below HR1.out HB.out) HC1.out (Kd.C_below HR2.out HB.out) HC2.out (Kd.C_below HR3.out HB.out) HC3.out F1.out).mono ?_); rintro e w7 ⟨rfl, hb⟩; have n0_ := Aside0.mk (below_step HB.out hb); clear HB; have HB := n0_; clear n0_; clear hb) | (go_at_call 12; (with_reducible refine (grapevineref08_Right.calls A0 c0 l A1 c1 o A2 c2 a A3 c3 b z _ (Kd.C_below HR0.out HB.out) HC0.out (Kd.C_below HR1.out HB.out) HC1.out (Kd.C_below HR2.out HB.out) HC2.out (Kd.C_below HR3.out HB.out) HC3.out F2.out).mono ?_); rintro e w8 ⟨rfl, hb⟩; have n0_ := Aside0.mk (below_step HB.out hb); clear HB; have HB := n0_; clear n0_; clear hb))
 go_ret
 exact ⟨rfl, HB.out⟩
end Go.Proofs.Ytnmphfelebkaiaa.Pr
-- shrunk
/-
Arguments that are slices of whatever kind, opened, with the sizes of all that is read behind them. General: no program in sight.
-/
namespace Go.Proofs.Ytnmphfelebkaiaa.Pr
open Go.RowKit Go.Proofs.YtnmphfelebkaiaaW.PrintWords Go.Proofs.YtnmphfelebkaiaaW.PrintLast Go.Proofs.YtnmphfelebkaiaaW.PrintMore
open Go.ChangeShapes Go.WideShapes Go.Deep
def Rz (P : Program) {α : Type} (d : Kd α) (S : α → Prop) (t : TypeId) : Prop :=
 ∀ (H : Type) (enc : TypeId × Value → H) (w : World) (base : Nat) (spare : Nat → Bool) (held : Bool) (fuel : Nat) (cs : List Value) (x : DataW H × List MemPlace),
  DataW.trod enc P w base spare held fuel t cs = some x → (∀ n ∈ x.1.weights P t, n ≤ 140737488351232) → ∃ y, d.K w y cs ∧ S y
theorem Rz.int {P : Program} {t : TypeId} {k : IntKind} (hu : P.underlying t = some (.int k)) : Rz P (Kd.int k) (fun n => (Lit.int k n).wf = true) t := fun H enc w base spare held fuel cs x h _ => by
 obtain ⟨n, rfl, _, hw⟩ := DataW.trod_int hu h
 exact ⟨n, rfl, hw⟩
theorem Rz.string {P : Program} {t : TypeId} (hu : P.underlying t = some .string) : Rz P Kd.string (fun s => s.size ≤ 140737488351232) t := fun H enc w base spare held fuel cs x h hz => by
 obtain ⟨s, rfl, rfl, _⟩ := DataW.trod_string hu h
 refine ⟨s, rfl, ?_⟩
 have := hz s.data.toList.length (by simp [DataW.weights])
 simpa using this
theorem weights_mem_all {H : Type} {P : Program} {e : TypeId} : ∀ {l : List (DataW H)} {d : DataW H}, d ∈ l → ∀ n ∈ d.weights P e, n ∈ DataW.weightsAll P e l
 | c :: l, d, hd, n, hn => by
  simp only [DataW.weightsAll, List.mem_append]
  rcases List.mem_cons.1 hd with rfl | hd
  ·exact Or.inl hn
  ·exact Or.inr (weights_mem_all hd n hn)
theorem Rz.slice {P : Program} {α : Type} {d : Kd α} {S : α → Prop} {t e : TypeId} {B : Nat} (hu : P.underlying t = some (.slice e)) (hc : P.cellsOf e = d.sz) (hB : P.bytesOf e = B) (hd : Rz P d S e) :
  Rz P (Kd.slice e d) (fun xs => xs.length * B ≤ 140737488351232 ∧ ∀ y ∈ xs, S y) t := fun H enc w base spare held fuel cs x h hz => by
 rcases open_slice hu h with ⟨rfl, _⟩ | ⟨a, len, cap, m, n, D, Pl, rfl, hb, hl, hm, hmm, rfl, hx⟩
 ·exact ⟨[], ⟨none, 0, rfl, Nat.le_refl _, rfl, by simp, fun h0 => absurd h0 (Nat.lt_irrefl _)⟩, by simp, by simp⟩
 ·have hlm : len ≤ m := by rw [hmm]; split <;> omega
  have hw0 : len * B ≤ 140737488351232 := by
   have h1 := hz ((((List.range len).map D).length + ((List.range (m - len)).map fun j => D (len + j)).length) * P.bytesOf e) (by simp [DataW.weights, hu])
   rw [hB] at h1
   simp only [List.length_map, List.length_range] at h1
   exact Nat.le_trans (Nat.mul_le_mul_right _ (Nat.le_add_right _ _)) h1
  have hw1 : ∀ i, i < len → ∀ q ∈ (D i).weights P e, q ≤ 140737488351232 := fun i hi q hq => by
   refine hz q ?_
   simp only [DataW.weights, hu, List.mem_cons, List.mem_append]
   exact Or.inr (Or.inl (weights_mem_all (List.mem_map.2 ⟨i, List.mem_range.2 hi, rfl⟩) q hq))
  have key : ∀ k, k ≤ len → ∃ xs : List α, xs.length = k ∧ (∀ y ∈ xs, S y) ∧ ∀ j p, xs[j]? = some p → ∃ c, c.length = d.sz ∧ d.K w p c ∧ ∀ i u, c[i]? = some u → w.cell? (a.add (j * d.sz + i)) = some u := by
   intro k
   induction k with
   | zero => exact fun _ => ⟨[], rfl, by simp, fun j p hj => by simp at hj⟩
   | succ k ih =>
    intro hk
    obtain ⟨xs, hxl, hS, hxs⟩ := ih (by omega)
    obtain ⟨cs', h1, h2⟩ := hx k (by omega)
    obtain ⟨y, hy, hSy⟩ := hd H enc w base spare held n cs' _ h2 (hw1 k (by omega))
    obtain ⟨_, hlen, hcell⟩ := World.cells?_some h1
    refine ⟨xs ++ [y], by simp [hxl], fun z hz => ?_, fun j p hj => ?_⟩
    ·rcases List.mem_append.1 hz with hz | hz
     ·exact hS z hz
     ·rw [List.mem_singleton.1 hz]; exact hSy
    by_cases hjk : j < k
    ·rw [List.getElem?_append_left (by omega)] at hj
     exact hxs j p hj
    ·have hj' : j = k := by
      have : j < (xs ++ [y]).length := by
       rcases Nat.lt_or_ge j (xs ++ [y]).length with h | h
       ·exact h
       ·rw [List.getElem?_eq_none h] at hj; cases hj
      simp [hxl] at this; omega
     subst hj'
     rw [List.getElem?_append_right (by omega), hxl, Nat.sub_self] at hj
     obtain rfl := Option.some.inj hj
     refine ⟨cs', by rw [hlen, hc], hy, fun i u hi => ?_⟩
     have hlt : i < cs'.length := by
      rcases Nat.lt_or_ge i cs'.length with h | h
      ·exact h
      ·rw [List.getElem?_eq_none h] at hi; cases hi
     rw [← hc, ← Deep.add_add, hcell i (by omega), hi]
  obtain ⟨xs, rfl, hS, hxs⟩ := key len (Nat.le_refl _)
  exact ⟨xs, ⟨some a, cap, rfl, hl, rfl, by unfold maxLen at hm; omega, fun _ => ⟨a, rfl, hxs⟩⟩, hw0, hS⟩
inductive RzF (P : Program) : {α : Type} → Kd α → (α → Prop) → Nat → List Field → Prop
 | last {α : Type} {d : Kd α} {S : α → Prop} {f : Field} {off : Nat} : f.offset = off → P.cellsOf f.type = d.sz → Rz P d S f.type → RzF P d S off [f]
 | cons {α β : Type} {a : Kd α} {b : Kd β} {S : α → Prop} {U : β → Prop} {f : Field} {fs : List Field} {off : Nat} : f.offset = off → P.cellsOf f.type = a.sz → Rz P a S f.type → RzF P b U (off + a.sz) fs → RzF P (Kd.pair a b) (fun x => S x.1 ∧ U x.2) off (f :: fs)
theorem RzF.read {P : Program} {H : Type} {enc : TypeId × Value → H} {w : World} {base : Nat} {spare : Nat → Bool} {held : Bool} {cs : List Value} {α : Type} {d : Kd α} {S : α → Prop} {off : Nat} {fs : List Field} (h : RzF P d S off fs) :
  (∀ f ∈ fs, ∃ n x, DataW.trod enc P w base spare held n f.type ((cs.drop f.offset).take (P.cellsOf f.type)) = some x ∧ ∀ q ∈ x.1.weights P f.type, q ≤ 140737488351232) → ∃ y, d.K w y ((cs.drop off).take d.sz) ∧ S y := by
 induction h with
 | last ho hc hr =>
  intro hf
  obtain ⟨n, x, hx, hw⟩ := hf _ (List.mem_singleton.2 rfl)
  rw [ho, hc] at hx
  exact hr H enc w base spare held n _ x hx hw
 | @cons α β a b S U f fs off ho hc hr _ ih =>
  intro hf
  obtain ⟨n, x, hx, hw⟩ := hf _ List.mem_cons_self
  rw [ho, hc] at hx
  obtain ⟨y0, h0, s0⟩ := hr H enc w base spare held n _ x hx hw
  obtain ⟨y1, h1, s1⟩ := ih (fun g hg => hf g (List.mem_cons_of_mem _ hg))
  refine ⟨(y0, y1), ⟨_, _, ?_, h0, h1⟩, s0, s1⟩
  show List.take (a.sz + b.sz) _ = _
  rw [List.take_add, List.drop_drop]
theorem Rz.struct {P : Program} {α : Type} {d : Kd α} {S : α → Prop} {t : TypeId} {fs : Array Field} (hu : P.underlying t = some (.struct fs)) (hc : P.cellsOf t = d.sz) (hf : RzF P d S 0 fs.toList) : Rz P d S t := fun H enc w base spare held fuel cs x h hz => by
 obtain ⟨xs, n, _, rfl, hl, hlen, hx⟩ := DataW.trod_struct hu h
 have h2 := hf.read (enc := enc) (w := w) (base := base) (spare := spare) (held := held) (cs := cs) (fun f hm => by
  obtain ⟨i, hi, he⟩ := List.mem_iff_getElem.1 hm
  have h3 := hx i f (by rw [← he]; simp)
  have hi' : i < xs.length := by rw [hlen]; simpa using hi
  rw [List.getElem?_eq_getElem hi'] at h3
  refine ⟨n, _, h3, fun q hq => hz q ?_⟩
  simp only [DataW.weights, hu]
  refine DataW.weights_mem_each (j := i) (t := f.type) (d := xs[i].1) ?_ ?_ q hq
  ·rw [List.getElem?_map, List.getElem?_eq_getElem hi, he]; rfl
  ·rw [List.getElem?_map, List.getElem?_eq_getElem hi']; rfl)
 rw [List.drop_zero, List.take_of_length_le (by omega)] at h2
 exact h2
theorem Rz.iso {P : Program} {α β : Type} {d : Kd α} {S : α → Prop} {f : β → α} {t : TypeId} (h : Rz P d S t) (g : ∀ y, ∃ x, f x = y) : Rz P (Kd.iso d f) (fun x => S (f x)) t := fun H enc w base spare held fuel cs x hx hz => by
 obtain ⟨y, hy, hs⟩ := h H enc w base spare held fuel cs x hx hz
 obtain ⟨z, rfl⟩ := g y
 exact ⟨z, hy, hs⟩
theorem Rz.mono {P : Program} {α : Type} {d : Kd α} {S S' : α → Prop} {t : TypeId} (h : Rz P d S t) (g : ∀ x, S x → S' x) : Rz P d S' t := fun H enc w base spare held fuel cs x hx hz => by
 obtain ⟨y, hy, hs⟩ := h H enc w base spare held fuel cs x hx hz
 exact ⟨y, hy, g y hs⟩
theorem open_rowz {P : Program} {α : Type} {d : Kd α} {S : α → Prop} {t e : TypeId} {B : Nat} {H : Type} {enc : TypeId × Value → H} {w : World} {r : Reach} {b0 base : Nat} {spare : Nat → Bool} {held : Bool} {v : Value} {x : DataW H} {ps : List MemPlace} {ts : List TypeId} {ds : List (DataW H)} {j : Nat}
  (hsz : (DataW.weightsEach P ts ds).all (· ≤ reachBytes) = true) (ht : ts[j]? = some t) (hdj : ds[j]? = some x)
  (hu : P.underlying t = some (.slice e)) (hc : P.cellsOf e = d.sz) (hB : P.bytesOf e = B) (hd : Rz P d S e) (hval : Value.okWide P w r b0 t v) (h : DataW.Trod enc P w base spare held t v x ps) :
  ∃ (A : Option Addr) (c : Nat) (xs : List α), v = .slice A xs.length c ∧ xs.length ≤ c ∧ d.C w A xs.length xs ∧ xs.length * B ≤ 140737488351232 ∧ ∀ y ∈ xs, S y := by
 obtain ⟨a, len, cap, rfl⟩ := okWide_slice hu hval
 obtain ⟨fuel, hf⟩ := h
 obtain ⟨xs, ⟨A, c, hcs, hl, hC⟩, hb, hS⟩ := Rz.slice hu hc hB hd H enc w base spare held fuel _ _ hf (fun n hn => by
  have := List.all_eq_true.1 hsz _ (DataW.weights_mem_each ht hdj n hn)
  have h2 : n ≤ reachBytes := by simpa using this
  exact h2)
 simp [Value.cells] at hcs
 obtain ⟨rfl, rfl, rfl⟩ := hcs
 exact ⟨_, _, xs, rfl, hl, hC, hb, hS⟩
end Go.Proofs.Ytnmphfelebkaiaa.Pr
-- shrunk
/-
The kinds of the lower layers' arguments, with sizes: lists of texts, edits.
-/
namespace Go.Proofs.Ytnmphfelebkaiaa.Pr
open Go.RowKit Go.Proofs.YtnmphfelebkaiaaW.PrintWords Go.Proofs.YtnmphfelebkaiaaW.PrintLast Go.Proofs.YtnmphfelebkaiaaW.PrintMore
theorem rz_string : Rz Try.prog Kd.string (fun s => s.size ≤ 140737488351232) 9 := Rz.string (by kernel_rfl)
theorem rz_int : Rz Try.prog (Kd.int .i64) (fun n => (Lit.int .i64 n).wf = true) 3 := Rz.int (by kernel_rfl)
end Go.Proofs.Ytnmphfelebkaiaa.Pr
-- shrunk
/-
Regions as arguments.
-/
namespace Go.Proofs.Ytnmphfelebkaiaa.Pr
open Go.RowKit Go.Proofs.YtnmphfelebkaiaaW.PrintWords Go.Proofs.YtnmphfelebkaiaaW.PrintLast Go.Proofs.YtnmphfelebkaiaaW.PrintMore
theorem rz_span : Rz Try.prog k30 (fun _ => True) 30 := by
 refine Rz.mono (Rz.iso (Rz.struct Try.underlying30 (by kernel_rfl) (.cons rfl (by kernel_rfl) rz_int (.last rfl (by kernel_rfl) rz_int))) (fun y => ⟨⟨y.1, y.2⟩, rfl⟩)) ?_
 exact fun x h => trivial
theorem rz_region : Rz Try.prog k32 (fun _ => True) 32 := by
 refine Rz.mono (Rz.iso (Rz.struct Try.underlying32 (by kernel_rfl) (.cons rfl (by kernel_rfl) rz_int (.cons rfl (by kernel_rfl) rz_span (.cons rfl (by kernel_rfl) rz_span (.last rfl (by kernel_rfl) rz_span))))) (fun y => ⟨⟨y.1, y.2.1, y.2.2.1, y.2.2.2⟩, rfl⟩)) ?_
 exact fun x h => trivial
end Go.Proofs.Ytnmphfelebkaiaa.Pr
-- shrunk
