/-
Several plain texts in one.
-/
import Derived.Test.YtoaijganmfijmaaK3
import Derived.Test.YtoaijganmfijmaaK6
import Derived.Test.YtoaijganmfijmaaGAhead
import Derived.Deep.Strs
import Derived.SizedLaws
import Derived.ChangeOld
import Derived.Carry
import Derived.Test.YtoaijganmfijmaaWWords
import Derived.Test.YtoaijganmfijmaaWMore
import Derived.Test.YtoaijganmfijmaaWLast
import Derived.KernelRfl
import Derived.Test.YtoaijganmfijmaaK0
/-
The law ApplyAhead answers true: the plain part.
-/
namespace Go.Proofs.Ytoaijganmfijmaa.Pr
open Go.RowKit Go.Proofs.YtoaijganmfijmaaW.PrintWords Go.Proofs.YtoaijganmfijmaaW.PrintLast Go.Proofs.YtoaijganmfijmaaW.PrintMore
set_option linter.unusedVariables false
set_option linter.unusedSimpArgs false
theorem AAhead_l0 (a ah x : List ByteArray) (l : List Hk) (hf : ∀ h ∈ l, FewH h) (hn : l.length ≤ 12) (hah : ah.length ≤ 20) (fin : Ev (fun k => grapevinelaw07_ApplyAhead.l0 k a ah l true x (l.map (laterH ah.length)) (l.length : Int)) true) :
  ∀ d i, l.length - i = d → i ≤ l.length → Ev (fun k => grapevinelaw07_ApplyAhead.l0 k a ah l true x ((l.take i).map (laterH ah.length)) (i : Int)) true := by
 intro d
 induction d with
 | zero =>
  intro i hd hi
  have : i = l.length := by omega
  subst this
  rw [List.take_length]
  exact fin
 | succ d ih =>
  intro i hd hi
  have hlt : i < l.length := by omega
  obtain ⟨h1, h2, h3, h4, h5, h6, h7, h8, h9⟩ := hf l[i] (List.getElem_mem hlt)
  have hlen : ((l.take i).map (laterH ah.length)).length < 2513169434916 := by rw [List.length_map, List.length_take]; omega
  refine Ev.step (fun _ => grapevinelaw07_ApplyAhead.l0.eq_2 ..) ?_
  simp only [if_pos (show (i : Int) < (l.length : Int) by omega), if_pos (show (0 : Int) ≤ (i : Int) by omega), if_pos hlen, rdH_at hlt, w_succ hlt (show l.length ≤ 4611686018427387904 by omega)]
  rw [show wrap64 (l[i].f0 + (ah.length : Int)) = l[i].f0 + (ah.length : Int) by unfold wrap64; omega, show wrap64 (l[i].f2 + (ah.length : Int)) = l[i].f2 + (ah.length : Int) by unfold wrap64; omega]
  have h := ih (i + 1) (by omega) (by omega)
  rw [List.take_succ_eq_append_getElem hlt, List.map_append] at h
  exact h
theorem ApplyAhead_pure (a ah : List ByteArray) (l : List Hk) (ya : a.length * 16 ≤ 140737488351232) (za : ∀ s ∈ a, s.size ≤ 140737488351232) (ym : ah.length * 16 ≤ 140737488351232) (zm : ∀ s ∈ ah, s.size ≤ 140737488351232) (yl : l.length * 56 ≤ 140737488351232) (zl : ∀ h ∈ l, ∀ s ∈ h.f4, s.size ≤ 140737488351232) :
  ∃ k, grapevinelaw07_ApplyAhead.f k a ah l = some true := by
 refine Ev.rounds ?_
 unfold grapevinelaw07_ApplyAhead.f
 have j0t : Ev (fun k => grapevinelaw07_ApplyAhead.j0 k a ah l true true) true := by
  refine Ev.step (fun _ => grapevinelaw07_ApplyAhead.j0.eq_2 ..) ?_
  exact Ev.now _
 refine Ev.bind (Ev.none_of fun _ => rfl) ?_
 refine Ev.bind (FewA_ev l (by omega)) ?_
 cases hf : fewL l with
 | false =>
  simp only [Bool.false_eq_true, if_false]
  exact j0t
 | true =>
  simp only [if_true]
  by_cases c : (a.length : Int) > 24
  ·simp only [if_pos c]
   exact j0t
  simp only [if_neg c]
  by_cases c2 : (ah.length : Int) > 20
  ·rw [decide_eq_true c2]
   exact j0t
  rw [decide_eq_false c2]
  have hfw := fewL_of hf
  have hS : SmallA a l := fewL_small (by omega) hf
  have hS2 : SmallA (ah ++ a) (l.map (laterH ah.length)) := by
   refine ⟨by rw [List.length_append]; omega, by rw [List.length_map]; omega, fun x hx => ?_⟩
   obtain ⟨y, hy, rfl⟩ := List.mem_map.1 hx
   obtain ⟨h1, h2, h3, h4, h5, h6, h7, h8, h9⟩ := hfw.1 y hy
   refine ⟨?_, ?_, ?_, ?_, ?_⟩ <;> simp only [laterH] <;> omega
  have hlen := applyP_len hS
  refine Ev.step (fun _ => grapevinelaw07_ApplyAhead.j0.eq_2 ..) ?_
  simp only [Bool.false_eq_true, if_false, if_true]
  refine Ev.bind (Ev.none_of fun _ => apply_some hS) ?_
  by_cases c3 : (applyP a l).2 = 0
  ·simp only [if_pos c3]
   have hp := applyP_ahead a ah (applyP a l).1 l (by rw [← c3])
   have h0 := AAhead_l0 a ah (applyP a l).1 l hfw.1 hfw.2 (by omega) ?_ _ 0 rfl (Nat.zero_le _)
   ·exact h0
   ·refine Ev.step (fun _ => grapevinelaw07_ApplyAhead.l0.eq_2 ..) ?_
    simp only [if_neg (show ¬ (l.length : Int) < (l.length : Int) by omega)]
    refine Ev.bind (Ev.none_of fun _ => rfl) ?_
    simp only [if_pos (show ([] : List ByteArray).length + ah.length < 8796093022208 by simp; omega), List.nil_append]
    refine Ev.bind (Ev.none_of fun _ => rfl) ?_
    simp only [if_pos (show ah.length + a.length < 8796093022208 by omega)]
    refine Ev.bind (Ev.none_of fun _ => (apply_some hS2).trans (congrArg some hp)) ?_
    simp only [if_true]
    refine Ev.bind (Ev.none_of fun _ => rfl) ?_
    simp only [if_pos (show ([] : List ByteArray).length + ah.length < 8796093022208 by simp; omega), List.nil_append]
    refine Ev.bind (Ev.none_of fun _ => rfl) ?_
    simp only [if_pos (show ah.length + (applyP a l).1.length < 8796093022208 by omega)]
    have ht := Texts_ev (ah ++ (applyP a l).1) (ah ++ (applyP a l).1) (by rw [List.length_append]; omega)
    rw [decide_eq_true rfl] at ht
    refine Ev.bind ht ?_
    exact Ev.now _
  ·simp only [if_neg c3]
   exact Ev.now _
end Go.Proofs.Ytoaijganmfijmaa.Pr
-- shrunk
/-
Arguments that are slices of whatever kind, opened, with the sizes of all that is read behind them. General: no program in sight.
-/
namespace Go.Proofs.Ytoaijganmfijmaa.Pr
open Go.RowKit Go.Proofs.YtoaijganmfijmaaW.PrintWords Go.Proofs.YtoaijganmfijmaaW.PrintLast Go.Proofs.YtoaijganmfijmaaW.PrintMore
open Go.ChangeShapes Go.WideShapes Go.Deep
def Rz (P : Program) {α : Type} (d : Kd α) (S : α → Prop) (t : TypeId) : Prop :=
 ∀ (H : Type) (enc : TypeId × Value → H) (w : World) (base : Nat) (spare : Nat → Bool) (held : Bool) (fuel : Nat) (cs : List Value) (x : DataW H × List MemPlace),
  DataW.trod enc P w base spare held fuel t cs = some x → (∀ n ∈ x.1.weights P t, n ≤ 140737488351232) → ∃ y, d.K w y cs ∧ S y
theorem Rz.int {P : Program} {t : TypeId} {k : IntKind} (hu : P.underlying t = some (.int k)) : Rz P (Kd.int k) (fun n => (Lit.int k n).wf = true) t := fun H enc w base spare held fuel cs x h _ => by
 obtain ⟨n, rfl, _, hw⟩ := DataW.trod_int hu h
 exact ⟨n, rfl, hw⟩
theorem Rz.string {P : Program} {t : TypeId} (hu : P.underlying t = some .string) : Rz P Kd.string (fun s => s.size ≤ 140737488351232) t := fun H enc w base spare held fuel cs x h hz => by
 obtain ⟨s, rfl, rfl, _⟩ := DataW.trod_string hu h
 refine ⟨s, rfl, ?_⟩
 have := hz s.data.toList.length (by simp [DataW.weights])
 simpa using this
theorem weights_mem_all {H : Type} {P : Program} {e : TypeId} : ∀ {l : List (DataW H)} {d : DataW H}, d ∈ l → ∀ n ∈ d.weights P e, n ∈ DataW.weightsAll P e l
 | c :: l, d, hd, n, hn => by
  simp only [DataW.weightsAll, List.mem_append]
  rcases List.mem_cons.1 hd with rfl | hd
  ·exact Or.inl hn
  ·exact Or.inr (weights_mem_all hd n hn)
theorem Rz.slice {P : Program} {α : Type} {d : Kd α} {S : α → Prop} {t e : TypeId} {B : Nat} (hu : P.underlying t = some (.slice e)) (hc : P.cellsOf e = d.sz) (hB : P.bytesOf e = B) (hd : Rz P d S e) :
  Rz P (Kd.slice e d) (fun xs => xs.length * B ≤ 140737488351232 ∧ ∀ y ∈ xs, S y) t := fun H enc w base spare held fuel cs x h hz => by
 rcases open_slice hu h with ⟨rfl, _⟩ | ⟨a, len, cap, m, n, D, Pl, rfl, hb, hl, hm, hmm, rfl, hx⟩
 ·exact ⟨[], ⟨none, 0, rfl, Nat.le_refl _, rfl, by simp, fun h0 => absurd h0 (Nat.lt_irrefl _)⟩, by simp, by simp⟩
 ·have hlm : len ≤ m := by rw [hmm]; split <;> omega
  have hw0 : len * B ≤ 140737488351232 := by
   have h1 := hz ((((List.range len).map D).length + ((List.range (m - len)).map fun j => D (len + j)).length) * P.bytesOf e) (by simp [DataW.weights, hu])
   rw [hB] at h1
   simp only [List.length_map, List.length_range] at h1
   exact Nat.le_trans (Nat.mul_le_mul_right _ (Nat.le_add_right _ _)) h1
  have hw1 : ∀ i, i < len → ∀ q ∈ (D i).weights P e, q ≤ 140737488351232 := fun i hi q hq => by
   refine hz q ?_
   simp only [DataW.weights, hu, List.mem_cons, List.mem_append]
   exact Or.inr (Or.inl (weights_mem_all (List.mem_map.2 ⟨i, List.mem_range.2 hi, rfl⟩) q hq))
  have key : ∀ k, k ≤ len → ∃ xs : List α, xs.length = k ∧ (∀ y ∈ xs, S y) ∧ ∀ j p, xs[j]? = some p → ∃ c, c.length = d.sz ∧ d.K w p c ∧ ∀ i u, c[i]? = some u → w.cell? (a.add (j * d.sz + i)) = some u := by
   intro k
   induction k with
   | zero => exact fun _ => ⟨[], rfl, by simp, fun j p hj => by simp at hj⟩
   | succ k ih =>
    intro hk
    obtain ⟨xs, hxl, hS, hxs⟩ := ih (by omega)
    obtain ⟨cs', h1, h2⟩ := hx k (by omega)
    obtain ⟨y, hy, hSy⟩ := hd H enc w base spare held n cs' _ h2 (hw1 k (by omega))
    obtain ⟨_, hlen, hcell⟩ := World.cells?_some h1
    refine ⟨xs ++ [y], by simp [hxl], fun z hz => ?_, fun j p hj => ?_⟩
    ·rcases List.mem_append.1 hz with hz | hz
     ·exact hS z hz
     ·rw [List.mem_singleton.1 hz]; exact hSy
    by_cases hjk : j < k
    ·rw [List.getElem?_append_left (by omega)] at hj
     exact hxs j p hj
    ·have hj' : j = k := by
      have : j < (xs ++ [y]).length := by
       rcases Nat.lt_or_ge j (xs ++ [y]).length with h | h
       ·exact h
       ·rw [List.getElem?_eq_none h] at hj; cases hj
      simp [hxl] at this; omega
     subst hj'
     rw [List.getElem?_append_right (by omega), hxl, Nat.sub_self] at hj
     obtain rfl := Option.some.inj hj
     refine ⟨cs', by rw [hlen, hc], hy, fun i u hi => ?_⟩
     have hlt : i < cs'.length := by
      rcases Nat.lt_or_ge i cs'.length with h | h
      ·exact h
      ·rw [List.getElem?_eq_none h] at hi; cases hi
     rw [← hc, ← Deep.add_add, hcell i (by omega), hi]
  obtain ⟨xs, rfl, hS, hxs⟩ := key len (Nat.le_refl _)
  exact ⟨xs, ⟨some a, cap, rfl, hl, rfl, by unfold maxLen at hm; omega, fun _ => ⟨a, rfl, hxs⟩⟩, hw0, hS⟩
inductive RzF (P : Program) : {α : Type} → Kd α → (α → Prop) → Nat → List Field → Prop
 | last {α : Type} {d : Kd α} {S : α → Prop} {f : Field} {off : Nat} : f.offset = off → P.cellsOf f.type = d.sz → Rz P d S f.type → RzF P d S off [f]
 | cons {α β : Type} {a : Kd α} {b : Kd β} {S : α → Prop} {U : β → Prop} {f : Field} {fs : List Field} {off : Nat} : f.offset = off → P.cellsOf f.type = a.sz → Rz P a S f.type → RzF P b U (off + a.sz) fs → RzF P (Kd.pair a b) (fun x => S x.1 ∧ U x.2) off (f :: fs)
theorem RzF.read {P : Program} {H : Type} {enc : TypeId × Value → H} {w : World} {base : Nat} {spare : Nat → Bool} {held : Bool} {cs : List Value} {α : Type} {d : Kd α} {S : α → Prop} {off : Nat} {fs : List Field} (h : RzF P d S off fs) :
  (∀ f ∈ fs, ∃ n x, DataW.trod enc P w base spare held n f.type ((cs.drop f.offset).take (P.cellsOf f.type)) = some x ∧ ∀ q ∈ x.1.weights P f.type, q ≤ 140737488351232) → ∃ y, d.K w y ((cs.drop off).take d.sz) ∧ S y := by
 induction h with
 | last ho hc hr =>
  intro hf
  obtain ⟨n, x, hx, hw⟩ := hf _ (List.mem_singleton.2 rfl)
  rw [ho, hc] at hx
  exact hr H enc w base spare held n _ x hx hw
 | @cons α β a b S U f fs off ho hc hr _ ih =>
  intro hf
  obtain ⟨n, x, hx, hw⟩ := hf _ List.mem_cons_self
  rw [ho, hc] at hx
  obtain ⟨y0, h0, s0⟩ := hr H enc w base spare held n _ x hx hw
  obtain ⟨y1, h1, s1⟩ := ih (fun g hg => hf g (List.mem_cons_of_mem _ hg))
  refine ⟨(y0, y1), ⟨_, _, ?_, h0, h1⟩, s0, s1⟩
  show List.take (a.sz + b.sz) _ = _
  rw [List.take_add, List.drop_drop]
theorem Rz.struct {P : Program} {α : Type} {d : Kd α} {S : α → Prop} {t : TypeId} {fs : Array Field} (hu : P.underlying t = some (.struct fs)) (hc : P.cellsOf t = d.sz) (hf : RzF P d S 0 fs.toList) : Rz P d S t := fun H enc w base spare held fuel cs x h hz => by
 obtain ⟨xs, n, _, rfl, hl, hlen, hx⟩ := DataW.trod_struct hu h
 have h2 := hf.read (enc := enc) (w := w) (base := base) (spare := spare) (held := held) (cs := cs) (fun f hm => by
  obtain ⟨i, hi, he⟩ := List.mem_iff_getElem.1 hm
  have h3 := hx i f (by rw [← he]; simp)
  have hi' : i < xs.length := by rw [hlen]; simpa using hi
  rw [List.getElem?_eq_getElem hi'] at h3
  refine ⟨n, _, h3, fun q hq => hz q ?_⟩
  simp only [DataW.weights, hu]
  refine DataW.weights_mem_each (j := i) (t := f.type) (d := xs[i].1) ?_ ?_ q hq
  ·rw [List.getElem?_map, List.getElem?_eq_getElem hi, he]; rfl
  ·rw [List.getElem?_map, List.getElem?_eq_getElem hi']; rfl)
 rw [List.drop_zero, List.take_of_length_le (by omega)] at h2
 exact h2
theorem Rz.iso {P : Program} {α β : Type} {d : Kd α} {S : α → Prop} {f : β → α} {t : TypeId} (h : Rz P d S t) (g : ∀ y, ∃ x, f x = y) : Rz P (Kd.iso d f) (fun x => S (f x)) t := fun H enc w base spare held fuel cs x hx hz => by
 obtain ⟨y, hy, hs⟩ := h H enc w base spare held fuel cs x hx hz
 obtain ⟨z, rfl⟩ := g y
 exact ⟨z, hy, hs⟩
theorem Rz.mono {P : Program} {α : Type} {d : Kd α} {S S' : α → Prop} {t : TypeId} (h : Rz P d S t) (g : ∀ x, S x → S' x) : Rz P d S' t := fun H enc w base spare held fuel cs x hx hz => by
 obtain ⟨y, hy, hs⟩ := h H enc w base spare held fuel cs x hx hz
 exact ⟨y, hy, g y hs⟩
theorem open_rowz {P : Program} {α : Type} {d : Kd α} {S : α → Prop} {t e : TypeId} {B : Nat} {H : Type} {enc : TypeId × Value → H} {w : World} {r : Reach} {b0 base : Nat} {spare : Nat → Bool} {held : Bool} {v : Value} {x : DataW H} {ps : List MemPlace} {ts : List TypeId} {ds : List (DataW H)} {j : Nat}
  (hsz : (DataW.weightsEach P ts ds).all (· ≤ reachBytes) = true) (ht : ts[j]? = some t) (hdj : ds[j]? = some x)
  (hu : P.underlying t = some (.slice e)) (hc : P.cellsOf e = d.sz) (hB : P.bytesOf e = B) (hd : Rz P d S e) (hval : Value.okWide P w r b0 t v) (h : DataW.Trod enc P w base spare held t v x ps) :
  ∃ (A : Option Addr) (c : Nat) (xs : List α), v = .slice A xs.length c ∧ xs.length ≤ c ∧ d.C w A xs.length xs ∧ xs.length * B ≤ 140737488351232 ∧ ∀ y ∈ xs, S y := by
 obtain ⟨a, len, cap, rfl⟩ := okWide_slice hu hval
 obtain ⟨fuel, hf⟩ := h
 obtain ⟨xs, ⟨A, c, hcs, hl, hC⟩, hb, hS⟩ := Rz.slice hu hc hB hd H enc w base spare held fuel _ _ hf (fun n hn => by
  have := List.all_eq_true.1 hsz _ (DataW.weights_mem_each ht hdj n hn)
  have h2 : n ≤ reachBytes := by simpa using this
  exact h2)
 simp [Value.cells] at hcs
 obtain ⟨rfl, rfl, rfl⟩ := hcs
 exact ⟨_, _, xs, rfl, hl, hC, hb, hS⟩
end Go.Proofs.Ytoaijganmfijmaa.Pr
-- shrunk
/-
The kinds of the lower layers' arguments, with sizes: lists of texts, edits.
-/
namespace Go.Proofs.Ytoaijganmfijmaa.Pr
open Go.RowKit Go.Proofs.YtoaijganmfijmaaW.PrintWords Go.Proofs.YtoaijganmfijmaaW.PrintLast Go.Proofs.YtoaijganmfijmaaW.PrintMore
theorem rz_string : Rz Try.prog Kd.string (fun s => s.size ≤ 140737488351232) 9 := Rz.string (by kernel_rfl)
theorem rz_strings : Rz Try.prog (Kd.slice 9 Kd.string) (fun xs => xs.length * 16 ≤ 140737488351232 ∧ ∀ y ∈ xs, y.size ≤ 140737488351232) 22 := Rz.slice (e := 9) (by kernel_rfl) (by kernel_rfl) (by kernel_rfl) rz_string
theorem rz_int : Rz Try.prog (Kd.int .i64) (fun n => (Lit.int .i64 n).wf = true) 3 := Rz.int (by kernel_rfl)
end Go.Proofs.Ytoaijganmfijmaa.Pr
-- shrunk
/-
The kinds of layer 7's arguments, with sizes: hunks.
-/
namespace Go.Proofs.Ytoaijganmfijmaa.Pr
open Go.RowKit Go.Proofs.YtoaijganmfijmaaW.PrintWords Go.Proofs.YtoaijganmfijmaaW.PrintLast Go.Proofs.YtoaijganmfijmaaW.PrintMore
theorem rz_hunk : Rz Try.prog k41 (fun h => ∀ s ∈ h.f4, s.size ≤ 140737488351232) 41 := by
 refine Rz.mono (Rz.iso (Rz.struct Try.underlying41 (by kernel_rfl) (.cons rfl (by kernel_rfl) rz_int (.cons rfl (by kernel_rfl) rz_int (.cons rfl (by kernel_rfl) rz_int (.cons rfl (by kernel_rfl) rz_int (.last rfl (by kernel_rfl) rz_strings)))))) (fun y => ⟨⟨y.1, y.2.1, y.2.2.1, y.2.2.2.1, y.2.2.2.2⟩, rfl⟩)) ?_
 intro x h
 exact h.2.2.2.2.2
end Go.Proofs.Ytoaijganmfijmaa.Pr
-- shrunk
