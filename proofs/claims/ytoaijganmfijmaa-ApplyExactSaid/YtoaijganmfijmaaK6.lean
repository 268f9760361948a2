/-
Several plain texts in one.
-/
import Derived.Test.YtoaijganmfijmaaK5
import Derived.Deep.Strs
import Derived.SizedLaws
import Derived.ChangeOld
import Derived.Carry
import Derived.Test.YtoaijganmfijmaaWWords
import Derived.Test.YtoaijganmfijmaaWMore
import Derived.Test.YtoaijganmfijmaaWLast
import Derived.KernelRfl
import Derived.Test.YtoaijganmfijmaaK0
/-
The law ApplyExact answers true: the plain part.
-/
namespace Go.Proofs.Ytoaijganmfijmaa.Pr
open Go.RowKit Go.Proofs.YtoaijganmfijmaaW.PrintWords Go.Proofs.YtoaijganmfijmaaW.PrintLast Go.Proofs.YtoaijganmfijmaaW.PrintMore
set_option linter.unusedVariables false
set_option linter.unusedSimpArgs false
theorem u8_le {a : Int} (h : (Lit.int .u8 a).wf = true) : a ≤ 255 := by
 simp only [Lit.wf, Bool.and_eq_true, decide_eq_true_eq] at h
 have e1 : IntKind.u8.max = 255 := rfl
 omega
theorem AExact_l1 (b x : List ByteArray) (s : ByteArray) (hn : x.length ≤ 1048576) (hxb : x.length = b.length) : ∀ (d i : Nat) (z : Bool), x.length - i = d → i ≤ x.length → (z = true ∨ s ∈ x.drop i) → Ev (fun k => grapevinelaw07_ApplyExact.l1 k b s true x 0 z (i : Int)) true := by
 intro d
 induction d with
 | zero =>
  intro i z hd hi hz
  rw [List.drop_of_length_le (by omega)] at hz
  have hz2 : z = true := hz.elim id (fun h => absurd h (by simp))
  subst hz2
  refine Ev.step (fun _ => grapevinelaw07_ApplyExact.l1.eq_2 ..) ?_
  simp only [if_neg (show ¬ (i : Int) < (x.length : Int) by omega), if_true]
  rw [show ((x.length : Int) == (b.length : Int)) = true by rw [beq_iff_eq]; omega]
  exact Ev.now _
 | succ d ih =>
  intro i z hd hi hz
  have hlt : i < x.length := by omega
  refine Ev.step (fun _ => grapevinelaw07_ApplyExact.l1.eq_2 ..) ?_
  simp only [if_pos (show (i : Int) < (x.length : Int) by omega), w_succ hlt (show x.length ≤ 4611686018427387904 by omega), if_pos (show (0 : Int) ≤ (i : Int) by omega), rdS_at hlt]
  cases z with
  | true =>
   simp only [if_true]
   exact ih (i + 1) true (by omega) (by omega) (Or.inl rfl)
  | false =>
   simp only [Bool.false_eq_true, if_false]
   refine ih (i + 1) _ (by omega) (by omega) ?_
   rcases hz with hz | hz
   ·cases hz
   ·rw [List.drop_eq_getElem_cons hlt] at hz
    rcases List.mem_cons.1 hz with e | hz
    ·left
     rw [beq_iff_eq, e]
    ·exact Or.inr hz
theorem inH_nil (K : Nat) : ¬ inH K [] := fun ⟨_, hh, _⟩ => absurd hh (by simp)
theorem inH_cons (K : Nat) (h : Hk) (l : List Hk) : inH K (h :: l) ↔ (h.f0 ≤ (K : Int) ∧ (K : Int) < h.f0 + h.f1) ∨ inH K l := by
 constructor
 ·rintro ⟨x, hx, h12⟩
  rcases List.mem_cons.1 hx with rfl | hx
  ·exact Or.inl h12
  ·exact Or.inr ⟨x, hx, h12⟩
 ·rintro (h12 | ⟨x, hx, h12⟩)
  ·exact ⟨h, List.mem_cons_self, h12⟩
  ·exact ⟨x, List.mem_cons_of_mem _ hx, h12⟩
theorem AExact_l0 (b x : List ByteArray) (s : ByteArray) (K : Nat) (l : List Hk) (e : Int) (hn : l.length ≤ 1048576) (hs : ∀ h ∈ l, 0 ≤ h.f0 ∧ h.f0 ≤ 1048576 ∧ 0 ≤ h.f1 ∧ h.f1 ≤ 1048576)
  (h1 : inH K l → x = [] ∧ e = 6) (h2 : ¬ inH K l → Ev (fun k => grapevinelaw07_ApplyExact.l1 k b s true x e false 0) true) :
  ∀ (d i : Nat) (z : Bool), l.length - i = d → i ≤ l.length → (inH K l ↔ (z = true ∨ inH K (l.drop i))) → Ev (fun k => grapevinelaw07_ApplyExact.l0 k b s true (K : Int) l 0 x e z (i : Int)) true := by
 intro d
 induction d with
 | zero =>
  intro i z hd hi hz
  rw [List.drop_of_length_le (by omega)] at hz
  refine Ev.step (fun _ => grapevinelaw07_ApplyExact.l0.eq_2 ..) ?_
  simp only [if_neg (show ¬ (i : Int) < (l.length : Int) by omega), if_true]
  cases z with
  | true =>
   obtain ⟨rfl, rfl⟩ := h1 (hz.2 (Or.inl rfl))
   simp only [if_true]
   exact Ev.now _
  | false =>
   simp only [Bool.false_eq_true, if_false]
   exact h2 (fun h => (hz.1 h).elim (fun h => by cases h) (inH_nil K))
 | succ d ih =>
  intro i z hd hi hz
  have hlt : i < l.length := by omega
  have hsm := hs l[i] (List.getElem_mem hlt)
  rw [List.drop_eq_getElem_cons hlt, inH_cons] at hz
  refine Ev.step (fun _ => grapevinelaw07_ApplyExact.l0.eq_2 ..) ?_
  simp only [if_pos (show (i : Int) < (l.length : Int) by omega), w_succ hlt (show l.length ≤ 4611686018427387904 by omega), if_pos (show (0 : Int) ≤ (i : Int) by omega), rdH_at hlt]
  cases z with
  | true =>
   simp only [if_true]
   exact ih (i + 1) true (by omega) (by omega) ⟨fun _ => Or.inl rfl, fun _ => hz.2 (Or.inl rfl)⟩
  | false =>
   simp only [Bool.false_eq_true, if_false]
   rw [show wrap64 (l[i].f0 + l[i].f1) = l[i].f0 + l[i].f1 by unfold wrap64; omega]
   by_cases c : (K : Int) ≥ l[i].f0
   ·simp only [if_pos c]
    refine ih (i + 1) _ (by omega) (by omega) ?_
    rw [decide_eq_true_eq, hz]
    constructor
    ·rintro (h | h | h)
     ·cases h
     ·exact Or.inl h.2
     ·exact Or.inr h
    ·rintro (h | h)
     ·exact Or.inr (Or.inl ⟨c, h⟩)
     ·exact Or.inr (Or.inr h)
   ·simp only [if_neg c]
    refine ih (i + 1) false (by omega) (by omega) ?_
    rw [hz]
    constructor
    ·rintro (h | h | h)
     ·cases h
     ·exact absurd h.1 c
     ·exact Or.inr h
    ·rintro (h | h)
     ·cases h
     ·exact Or.inr (Or.inr h)
theorem ApplyExact_pure (a b : List ByteArray) (a2 a3 : Int) (s : ByteArray) (ya : a.length * 16 ≤ 140737488351232) (za : ∀ s ∈ a, s.size ≤ 140737488351232) (yb : b.length * 16 ≤ 140737488351232) (zb : ∀ s ∈ b, s.size ≤ 140737488351232) (w2 : (Lit.int .u8 a2).wf = true) (w3 : (Lit.int .u8 a3).wf = true) (w4 : s.size ≤ 140737488351232) :
  ∃ k, grapevinelaw07_ApplyExact.f k a b a2 a3 s = some true := by
 refine Ev.rounds ?_
 unfold grapevinelaw07_ApplyExact.f
 have j0t : Ev (fun k => grapevinelaw07_ApplyExact.j0 k a b a2 a3 s true true) true := by
  refine Ev.step (fun _ => grapevinelaw07_ApplyExact.j0.eq_2 ..) ?_
  exact Ev.now _
 refine Ev.bind (Ev.none_of fun _ => rfl) ?_
 by_cases c0 : (a.length : Int) = 0
 ·simp only [if_pos c0]
  exact j0t
 simp only [if_neg c0]
 by_cases c1 : (a.length : Int) > 40
 ·simp only [if_pos c1]
  exact j0t
 simp only [if_neg c1]
 by_cases c2 : (b.length : Int) > 40
 ·rw [decide_eq_true c2]
  exact j0t
 rw [decide_eq_false c2]
 have hL := law_between a b (by omega) (by omega) zb
 have hm := mod_in (x := a2) (n := 51) (u8_nn w2) (by omega) (by omega)
 obtain ⟨ar, har⟩ : ∃ ar, ar = a2 % 51 := ⟨_, rfl⟩
 rw [← har] at hm
 have hT := between_takes a b ar hm.2.1 hL
 have hmost := makeH_most a ar (between a b)
 have hlen := hL.len
 obtain ⟨l, hl⟩ : ∃ l, l = makeH a ar 0 (between a b) := ⟨_, rfl⟩
 have hbe := Between_ev a b ar (by omega) (by omega) hm.2.1 (by omega) za hL
 rw [← hl] at hT hmost hbe
 have hn3 := u8_nn w3
 have hb3 := u8_le w3
 have hw3 : wrap64 a3 = a3 := by unfold wrap64; omega
 obtain ⟨K, hK⟩ : ∃ K : Nat, Int.tmod (wrap64 a3) (a.length : Int) = (K : Int) := ⟨(Int.tmod (wrap64 a3) (a.length : Int)).toNat, by
  rw [hw3, Int.tmod_eq_emod_of_nonneg hn3]
  have := Int.emod_nonneg a3 (show (a.length : Int) ≠ 0 from c0)
  omega⟩
 have hKl : K < a.length := by
  have h1 := Int.emod_lt_of_pos a3 (show (0 : Int) < (a.length : Int) by omega)
  rw [hw3, Int.tmod_eq_emod_of_nonneg hn3] at hK
  omega
 refine Ev.step (fun _ => grapevinelaw07_ApplyExact.j0.eq_2 ..) ?_
 simp only [Bool.false_eq_true, if_false, if_neg c0, hK, if_pos (show (0 : Int) ≤ (K : Int) by omega), if_pos (show (K : Int) < (a.length : Int) by omega), rdS_at hKl]
 by_cases c3 : a[K].toList = s.toList
 ·simp only [if_pos c3]
  exact Ev.now _
 simp only [if_neg c3]
 have hne : a[K]? ≠ some s := by
  rw [List.getElem?_eq_getElem hKl]
  intro h
  exact c3 (by rw [Option.some.inj h])
 rw [hm.1]
 refine Ev.bind hbe ?_
 refine Ev.bind (Ev.none_of fun _ => rfl) ?_
 simp only [if_pos (show ([] : List ByteArray).length + a.length < 8796093022208 by simp; omega), List.nil_append]
 refine Ev.bind (Ev.none_of fun _ => rfl) ?_
 simp only [if_pos (show (K : Int) < (a.length : Int) by omega), Int.toNat_natCast]
 have hS0 := takes_small hT (by omega) (by omega) (by omega)
 have hS : SmallA (a.set K s) l := ⟨by rw [List.length_set]; omega, hS0.2⟩
 refine Ev.bind (Ev.none_of fun _ => apply_some hS) ?_
 have hR : rightP 0 0 l = true := by simpa using takes_right a b l 0 0 hT
 have hex := exact_all a b K s hKl hne l 0 0 [] hT (Nat.zero_le _)
 have hsm : ∀ h ∈ l, 0 ≤ h.f0 ∧ h.f0 ≤ 1048576 ∧ 0 ≤ h.f1 ∧ h.f1 ≤ 1048576 := by
  intro h hh
  obtain ⟨D, D', A, B, bs, t, H⟩ := takes_each a b l 0 0 hT h hh
  have h1 := H.hA
  rw [H.eq]
  exact ⟨by show (0 : Int) ≤ (A : Int); omega, by show (A : Int) ≤ 1048576; omega, by show (0 : Int) ≤ ((oldN bs + t.length : Nat) : Int); omega, by show ((oldN bs + t.length : Nat) : Int) ≤ 1048576; omega⟩
 refine AExact_l0 b _ s K l _ (by omega) hsm ?_ ?_ _ 0 false rfl (Nat.zero_le _) (by simp)
 ·intro hin
  have e : applyP (a.set K s) l = ([], 6) := by rw [applyP, if_pos hR, hex.1 hin]
  rw [e]
  exact ⟨rfl, rfl⟩
 ·intro hin
  obtain ⟨o, p, h1, h2, h3⟩ := hex.2 hin
  have e : applyP (a.set K s) l = (o ++ (a.set K s).drop p, 0) := by rw [applyP, if_pos hR, h1]
  rw [e]
  simp only [List.length_nil, Nat.zero_add, List.drop_zero] at h2
  exact AExact_l1 b _ s (by rw [h2]; omega) h2 _ 0 false rfl (Nat.zero_le _) (Or.inr (by rw [List.drop_zero]; exact h3))
end Go.Proofs.Ytoaijganmfijmaa.Pr
-- shrunk
/-
Arguments that are slices of whatever kind, opened, with the sizes of all that is read behind them. General: no program in sight.
-/
namespace Go.Proofs.Ytoaijganmfijmaa.Pr
open Go.RowKit Go.Proofs.YtoaijganmfijmaaW.PrintWords Go.Proofs.YtoaijganmfijmaaW.PrintLast Go.Proofs.YtoaijganmfijmaaW.PrintMore
open Go.ChangeShapes Go.WideShapes Go.Deep
def Rz (P : Program) {α : Type} (d : Kd α) (S : α → Prop) (t : TypeId) : Prop :=
 ∀ (H : Type) (enc : TypeId × Value → H) (w : World) (base : Nat) (spare : Nat → Bool) (held : Bool) (fuel : Nat) (cs : List Value) (x : DataW H × List MemPlace),
  DataW.trod enc P w base spare held fuel t cs = some x → (∀ n ∈ x.1.weights P t, n ≤ 140737488351232) → ∃ y, d.K w y cs ∧ S y
theorem Rz.int {P : Program} {t : TypeId} {k : IntKind} (hu : P.underlying t = some (.int k)) : Rz P (Kd.int k) (fun n => (Lit.int k n).wf = true) t := fun H enc w base spare held fuel cs x h _ => by
 obtain ⟨n, rfl, _, hw⟩ := DataW.trod_int hu h
 exact ⟨n, rfl, hw⟩
theorem Rz.string {P : Program} {t : TypeId} (hu : P.underlying t = some .string) : Rz P Kd.string (fun s => s.size ≤ 140737488351232) t := fun H enc w base spare held fuel cs x h hz => by
 obtain ⟨s, rfl, rfl, _⟩ := DataW.trod_string hu h
 refine ⟨s, rfl, ?_⟩
 have := hz s.data.toList.length (by simp [DataW.weights])
 simpa using this
theorem weights_mem_all {H : Type} {P : Program} {e : TypeId} : ∀ {l : List (DataW H)} {d : DataW H}, d ∈ l → ∀ n ∈ d.weights P e, n ∈ DataW.weightsAll P e l
 | c :: l, d, hd, n, hn => by
  simp only [DataW.weightsAll, List.mem_append]
  rcases List.mem_cons.1 hd with rfl | hd
  ·exact Or.inl hn
  ·exact Or.inr (weights_mem_all hd n hn)
theorem Rz.slice {P : Program} {α : Type} {d : Kd α} {S : α → Prop} {t e : TypeId} {B : Nat} (hu : P.underlying t = some (.slice e)) (hc : P.cellsOf e = d.sz) (hB : P.bytesOf e = B) (hd : Rz P d S e) :
  Rz P (Kd.slice e d) (fun xs => xs.length * B ≤ 140737488351232 ∧ ∀ y ∈ xs, S y) t := fun H enc w base spare held fuel cs x h hz => by
 rcases open_slice hu h with ⟨rfl, _⟩ | ⟨a, len, cap, m, n, D, Pl, rfl, hb, hl, hm, hmm, rfl, hx⟩
 ·exact ⟨[], ⟨none, 0, rfl, Nat.le_refl _, rfl, by simp, fun h0 => absurd h0 (Nat.lt_irrefl _)⟩, by simp, by simp⟩
 ·have hlm : len ≤ m := by rw [hmm]; split <;> omega
  have hw0 : len * B ≤ 140737488351232 := by
   have h1 := hz ((((List.range len).map D).length + ((List.range (m - len)).map fun j => D (len + j)).length) * P.bytesOf e) (by simp [DataW.weights, hu])
   rw [hB] at h1
   simp only [List.length_map, List.length_range] at h1
   exact Nat.le_trans (Nat.mul_le_mul_right _ (Nat.le_add_right _ _)) h1
  have hw1 : ∀ i, i < len → ∀ q ∈ (D i).weights P e, q ≤ 140737488351232 := fun i hi q hq => by
   refine hz q ?_
   simp only [DataW.weights, hu, List.mem_cons, List.mem_append]
   exact Or.inr (Or.inl (weights_mem_all (List.mem_map.2 ⟨i, List.mem_range.2 hi, rfl⟩) q hq))
  have key : ∀ k, k ≤ len → ∃ xs : List α, xs.length = k ∧ (∀ y ∈ xs, S y) ∧ ∀ j p, xs[j]? = some p → ∃ c, c.length = d.sz ∧ d.K w p c ∧ ∀ i u, c[i]? = some u → w.cell? (a.add (j * d.sz + i)) = some u := by
   intro k
   induction k with
   | zero => exact fun _ => ⟨[], rfl, by simp, fun j p hj => by simp at hj⟩
   | succ k ih =>
    intro hk
    obtain ⟨xs, hxl, hS, hxs⟩ := ih (by omega)
    obtain ⟨cs', h1, h2⟩ := hx k (by omega)
    obtain ⟨y, hy, hSy⟩ := hd H enc w base spare held n cs' _ h2 (hw1 k (by omega))
    obtain ⟨_, hlen, hcell⟩ := World.cells?_some h1
    refine ⟨xs ++ [y], by simp [hxl], fun z hz => ?_, fun j p hj => ?_⟩
    ·rcases List.mem_append.1 hz with hz | hz
     ·exact hS z hz
     ·rw [List.mem_singleton.1 hz]; exact hSy
    by_cases hjk : j < k
    ·rw [List.getElem?_append_left (by omega)] at hj
     exact hxs j p hj
    ·have hj' : j = k := by
      have : j < (xs ++ [y]).length := by
       rcases Nat.lt_or_ge j (xs ++ [y]).length with h | h
       ·exact h
       ·rw [List.getElem?_eq_none h] at hj; cases hj
      simp [hxl] at this; omega
     subst hj'
     rw [List.getElem?_append_right (by omega), hxl, Nat.sub_self] at hj
     obtain rfl := Option.some.inj hj
     refine ⟨cs', by rw [hlen, hc], hy, fun i u hi => ?_⟩
     have hlt : i < cs'.length := by
      rcases Nat.lt_or_ge i cs'.length with h | h
      ·exact h
      ·rw [List.getElem?_eq_none h] at hi; cases hi
     rw [← hc, ← Deep.add_add, hcell i (by omega), hi]
  obtain ⟨xs, rfl, hS, hxs⟩ := key len (Nat.le_refl _)
  exact ⟨xs, ⟨some a, cap, rfl, hl, rfl, by unfold maxLen at hm; omega, fun _ => ⟨a, rfl, hxs⟩⟩, hw0, hS⟩
inductive RzF (P : Program) : {α : Type} → Kd α → (α → Prop) → Nat → List Field → Prop
 | last {α : Type} {d : Kd α} {S : α → Prop} {f : Field} {off : Nat} : f.offset = off → P.cellsOf f.type = d.sz → Rz P d S f.type → RzF P d S off [f]
 | cons {α β : Type} {a : Kd α} {b : Kd β} {S : α → Prop} {U : β → Prop} {f : Field} {fs : List Field} {off : Nat} : f.offset = off → P.cellsOf f.type = a.sz → Rz P a S f.type → RzF P b U (off + a.sz) fs → RzF P (Kd.pair a b) (fun x => S x.1 ∧ U x.2) off (f :: fs)
theorem RzF.read {P : Program} {H : Type} {enc : TypeId × Value → H} {w : World} {base : Nat} {spare : Nat → Bool} {held : Bool} {cs : List Value} {α : Type} {d : Kd α} {S : α → Prop} {off : Nat} {fs : List Field} (h : RzF P d S off fs) :
  (∀ f ∈ fs, ∃ n x, DataW.trod enc P w base spare held n f.type ((cs.drop f.offset).take (P.cellsOf f.type)) = some x ∧ ∀ q ∈ x.1.weights P f.type, q ≤ 140737488351232) → ∃ y, d.K w y ((cs.drop off).take d.sz) ∧ S y := by
 induction h with
 | last ho hc hr =>
  intro hf
  obtain ⟨n, x, hx, hw⟩ := hf _ (List.mem_singleton.2 rfl)
  rw [ho, hc] at hx
  exact hr H enc w base spare held n _ x hx hw
 | @cons α β a b S U f fs off ho hc hr _ ih =>
  intro hf
  obtain ⟨n, x, hx, hw⟩ := hf _ List.mem_cons_self
  rw [ho, hc] at hx
  obtain ⟨y0, h0, s0⟩ := hr H enc w base spare held n _ x hx hw
  obtain ⟨y1, h1, s1⟩ := ih (fun g hg => hf g (List.mem_cons_of_mem _ hg))
  refine ⟨(y0, y1), ⟨_, _, ?_, h0, h1⟩, s0, s1⟩
  show List.take (a.sz + b.sz) _ = _
  rw [List.take_add, List.drop_drop]
theorem Rz.struct {P : Program} {α : Type} {d : Kd α} {S : α → Prop} {t : TypeId} {fs : Array Field} (hu : P.underlying t = some (.struct fs)) (hc : P.cellsOf t = d.sz) (hf : RzF P d S 0 fs.toList) : Rz P d S t := fun H enc w base spare held fuel cs x h hz => by
 obtain ⟨xs, n, _, rfl, hl, hlen, hx⟩ := DataW.trod_struct hu h
 have h2 := hf.read (enc := enc) (w := w) (base := base) (spare := spare) (held := held) (cs := cs) (fun f hm => by
  obtain ⟨i, hi, he⟩ := List.mem_iff_getElem.1 hm
  have h3 := hx i f (by rw [← he]; simp)
  have hi' : i < xs.length := by rw [hlen]; simpa using hi
  rw [List.getElem?_eq_getElem hi'] at h3
  refine ⟨n, _, h3, fun q hq => hz q ?_⟩
  simp only [DataW.weights, hu]
  refine DataW.weights_mem_each (j := i) (t := f.type) (d := xs[i].1) ?_ ?_ q hq
  ·rw [List.getElem?_map, List.getElem?_eq_getElem hi, he]; rfl
  ·rw [List.getElem?_map, List.getElem?_eq_getElem hi']; rfl)
 rw [List.drop_zero, List.take_of_length_le (by omega)] at h2
 exact h2
theorem Rz.iso {P : Program} {α β : Type} {d : Kd α} {S : α → Prop} {f : β → α} {t : TypeId} (h : Rz P d S t) (g : ∀ y, ∃ x, f x = y) : Rz P (Kd.iso d f) (fun x => S (f x)) t := fun H enc w base spare held fuel cs x hx hz => by
 obtain ⟨y, hy, hs⟩ := h H enc w base spare held fuel cs x hx hz
 obtain ⟨z, rfl⟩ := g y
 exact ⟨z, hy, hs⟩
theorem Rz.mono {P : Program} {α : Type} {d : Kd α} {S S' : α → Prop} {t : TypeId} (h : Rz P d S t) (g : ∀ x, S x → S' x) : Rz P d S' t := fun H enc w base spare held fuel cs x hx hz => by
 obtain ⟨y, hy, hs⟩ := h H enc w base spare held fuel cs x hx hz
 exact ⟨y, hy, g y hs⟩
theorem open_rowz {P : Program} {α : Type} {d : Kd α} {S : α → Prop} {t e : TypeId} {B : Nat} {H : Type} {enc : TypeId × Value → H} {w : World} {r : Reach} {b0 base : Nat} {spare : Nat → Bool} {held : Bool} {v : Value} {x : DataW H} {ps : List MemPlace} {ts : List TypeId} {ds : List (DataW H)} {j : Nat}
  (hsz : (DataW.weightsEach P ts ds).all (· ≤ reachBytes) = true) (ht : ts[j]? = some t) (hdj : ds[j]? = some x)
  (hu : P.underlying t = some (.slice e)) (hc : P.cellsOf e = d.sz) (hB : P.bytesOf e = B) (hd : Rz P d S e) (hval : Value.okWide P w r b0 t v) (h : DataW.Trod enc P w base spare held t v x ps) :
  ∃ (A : Option Addr) (c : Nat) (xs : List α), v = .slice A xs.length c ∧ xs.length ≤ c ∧ d.C w A xs.length xs ∧ xs.length * B ≤ 140737488351232 ∧ ∀ y ∈ xs, S y := by
 obtain ⟨a, len, cap, rfl⟩ := okWide_slice hu hval
 obtain ⟨fuel, hf⟩ := h
 obtain ⟨xs, ⟨A, c, hcs, hl, hC⟩, hb, hS⟩ := Rz.slice hu hc hB hd H enc w base spare held fuel _ _ hf (fun n hn => by
  have := List.all_eq_true.1 hsz _ (DataW.weights_mem_each ht hdj n hn)
  have h2 : n ≤ reachBytes := by simpa using this
  exact h2)
 simp [Value.cells] at hcs
 obtain ⟨rfl, rfl, rfl⟩ := hcs
 exact ⟨_, _, xs, rfl, hl, hC, hb, hS⟩
end Go.Proofs.Ytoaijganmfijmaa.Pr
-- shrunk
/-
The kinds of the lower layers' arguments, with sizes: lists of texts, edits.
-/
namespace Go.Proofs.Ytoaijganmfijmaa.Pr
open Go.RowKit Go.Proofs.YtoaijganmfijmaaW.PrintWords Go.Proofs.YtoaijganmfijmaaW.PrintLast Go.Proofs.YtoaijganmfijmaaW.PrintMore
theorem rz_string : Rz Try.prog Kd.string (fun s => s.size ≤ 140737488351232) 9 := Rz.string (by kernel_rfl)
end Go.Proofs.Ytoaijganmfijmaa.Pr
-- shrunk
