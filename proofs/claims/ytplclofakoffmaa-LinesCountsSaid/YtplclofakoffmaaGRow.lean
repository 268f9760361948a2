/-
Arguments that are slices of whatever kind, opened: what is read behind an argument is a row of its kind. General: no program in sight.
-/
import Derived.Deep.Strs
import Derived.SizedLaws
import Derived.ChangeOld
import Derived.Carry
import Derived.Test.YtplclofakoffmaaWWords
import Derived.Test.YtplclofakoffmaaWMore
import Derived.Test.YtplclofakoffmaaWLast
namespace Go.Proofs.Ytplclofakoffmaa.Pr
open Go.RowKit Go.Proofs.YtplclofakoffmaaW.PrintWords Go.Proofs.YtplclofakoffmaaW.PrintLast Go.Proofs.YtplclofakoffmaaW.PrintMore
open Go.ChangeShapes Go.WideShapes Go.Deep
/-- What is read as a type's cells is a thing of the kind. -/
def Rd (P : Program) {α : Type} (d : Kd α) (t : TypeId) : Prop :=
  ∀ (H : Type) (enc : TypeId × Value → H) (w : World) (base : Nat) (spare : Nat → Bool) (held : Bool) (fuel : Nat) (cs : List Value) (x : DataW H × List MemPlace),
    DataW.trod enc P w base spare held fuel t cs = some x → ∃ y, d.K w y cs
theorem Rd.int {P : Program} {t : TypeId} {k : IntKind} (hu : P.underlying t = some (.int k)) : Rd P (Kd.int k) t := fun H enc w base spare held fuel cs x h => by
  obtain ⟨n, rfl, _, _⟩ := DataW.trod_int hu h
  exact ⟨n, rfl⟩
theorem Rd.string {P : Program} {t : TypeId} (hu : P.underlying t = some .string) : Rd P Kd.string t := fun H enc w base spare held fuel cs x h => by
  obtain ⟨n, rfl, _, _⟩ := DataW.trod_string hu h
  exact ⟨n, rfl⟩
theorem Rd.slice {P : Program} {α : Type} {d : Kd α} {t e : TypeId} (hu : P.underlying t = some (.slice e)) (hc : P.cellsOf e = d.sz) (hd : Rd P d e) : Rd P (Kd.slice e d) t := fun H enc w base spare held fuel cs x h => by
  rcases open_slice hu h with ⟨rfl, _⟩ | ⟨a, len, cap, m, n, D, Pl, rfl, hb, hl, hm, hmm, _, hx⟩
  · exact ⟨[], none, 0, rfl, Nat.le_refl _, rfl, by simp, fun h0 => absurd h0 (Nat.lt_irrefl _)⟩
  · have hlm : len ≤ m := by rw [hmm]; split <;> omega
    have key : ∀ k, k ≤ len → ∃ xs : List α, xs.length = k ∧ ∀ j p, xs[j]? = some p → ∃ c, c.length = d.sz ∧ d.K w p c ∧ ∀ i u, c[i]? = some u → w.cell? (a.add (j * d.sz + i)) = some u := by
      intro k
      induction k with
      | zero => exact fun _ => ⟨[], rfl, fun j p hj => by simp at hj⟩
      | succ k ih =>
        intro hk
        obtain ⟨xs, hxl, hxs⟩ := ih (by omega)
        obtain ⟨cs', h1, h2⟩ := hx k (by omega)
        obtain ⟨y, hy⟩ := hd H enc w base spare held n cs' _ h2
        obtain ⟨_, hlen, hcell⟩ := World.cells?_some h1
        refine ⟨xs ++ [y], by simp [hxl], fun j p hj => ?_⟩
        by_cases hjk : j < k
        · rw [List.getElem?_append_left (by omega)] at hj
          exact hxs j p hj
        · have hj' : j = k := by
            have : j < (xs ++ [y]).length := by
              rcases Nat.lt_or_ge j (xs ++ [y]).length with h | h
              · exact h
              · rw [List.getElem?_eq_none h] at hj; cases hj
            simp [hxl] at this; omega
          subst hj'
          rw [List.getElem?_append_right (by omega), hxl, Nat.sub_self] at hj
          obtain rfl := Option.some.inj hj
          refine ⟨cs', by rw [hlen, hc], hy, fun i u hi => ?_⟩
          have hlt : i < cs'.length := by
            rcases Nat.lt_or_ge i cs'.length with h | h
            · exact h
            · rw [List.getElem?_eq_none h] at hi; cases hi
          rw [← hc, ← Deep.add_add, hcell i (by omega), hi]
    obtain ⟨xs, rfl, hxs⟩ := key len (Nat.le_refl _)
    exact ⟨xs, some a, cap, rfl, hl, rfl, by unfold maxLen at hm; omega, fun _ => ⟨a, rfl, hxs⟩⟩
/-- Fields, one behind the other, from an offset on. -/
inductive RdF (P : Program) : {α : Type} → Kd α → Nat → List Field → Prop
  | last {α : Type} {d : Kd α} {f : Field} {off : Nat} : f.offset = off → P.cellsOf f.type = d.sz → Rd P d f.type → RdF P d off [f]
  | cons {α β : Type} {a : Kd α} {b : Kd β} {f : Field} {fs : List Field} {off : Nat} : f.offset = off → P.cellsOf f.type = a.sz → Rd P a f.type → RdF P b (off + a.sz) fs → RdF P (Kd.pair a b) off (f :: fs)
theorem RdF.read {P : Program} {H : Type} {enc : TypeId × Value → H} {w : World} {base : Nat} {spare : Nat → Bool} {held : Bool} {cs : List Value} {α : Type} {d : Kd α} {off : Nat} {fs : List Field} (h : RdF P d off fs) :
    (∀ f ∈ fs, ∃ n x, DataW.trod enc P w base spare held n f.type ((cs.drop f.offset).take (P.cellsOf f.type)) = some x) → ∃ y, d.K w y ((cs.drop off).take d.sz) := by
  induction h with
  | last ho hc hr =>
    intro hf
    obtain ⟨n, x, hx⟩ := hf _ (List.mem_singleton.2 rfl)
    rw [ho, hc] at hx
    exact hr H enc w base spare held n _ x hx
  | @cons α β a b f fs off ho hc hr _ ih =>
    intro hf
    obtain ⟨n, x, hx⟩ := hf _ List.mem_cons_self
    rw [ho, hc] at hx
    obtain ⟨y0, h0⟩ := hr H enc w base spare held n _ x hx
    obtain ⟨y1, h1⟩ := ih (fun g hg => hf g (List.mem_cons_of_mem _ hg))
    refine ⟨(y0, y1), _, _, ?_, h0, h1⟩
    show List.take (a.sz + b.sz) _ = _
    rw [List.take_add, List.drop_drop]
theorem Rd.struct {P : Program} {α : Type} {d : Kd α} {t : TypeId} {fs : Array Field} (hu : P.underlying t = some (.struct fs)) (hc : P.cellsOf t = d.sz) (hf : RdF P d 0 fs.toList) : Rd P d t := fun H enc w base spare held fuel cs x h => by
  obtain ⟨xs, n, _, _, hl, hlen, hx⟩ := DataW.trod_struct hu h
  have h2 := hf.read (enc := enc) (w := w) (base := base) (spare := spare) (held := held) (cs := cs) (fun f hm => by
    obtain ⟨i, hi, he⟩ := List.mem_iff_getElem.1 hm
    have h3 := hx i f (by rw [← he]; simp)
    rw [List.getElem?_eq_getElem (by rw [hlen]; simpa using hi)] at h3
    exact ⟨n, _, h3⟩)
  rw [List.drop_zero, List.take_of_length_le (by omega)] at h2
  exact h2
theorem Rd.iso {P : Program} {α β : Type} {d : Kd α} {f : β → α} {t : TypeId} (h : Rd P d t) (g : ∀ y, ∃ x, f x = y) : Rd P (Kd.iso d f) t := fun H enc w base spare held fuel cs x hx => by
  obtain ⟨y, hy⟩ := h H enc w base spare held fuel cs x hx
  obtain ⟨z, rfl⟩ := g y
  exact ⟨z, hy⟩
/-- An argument that is a slice: the row that is read behind it. -/
theorem open_rows {P : Program} {α : Type} {d : Kd α} {t e : TypeId} {H : Type} {enc : TypeId × Value → H} {w : World} {r : Reach} {b0 base : Nat} {spare : Nat → Bool} {held : Bool} {v : Value} {x : DataW H} {ps : List MemPlace}
    (hu : P.underlying t = some (.slice e)) (hc : P.cellsOf e = d.sz) (hd : Rd P d e) (hval : Value.okWide P w r b0 t v) (h : DataW.Trod enc P w base spare held t v x ps) :
    ∃ (A : Option Addr) (c : Nat) (xs : List α), v = .slice A xs.length c ∧ xs.length ≤ c ∧ d.C w A xs.length xs := by
  obtain ⟨a, len, cap, rfl⟩ := okWide_slice hu hval
  obtain ⟨fuel, hf⟩ := h
  obtain ⟨xs, A, c, hcs, hl, hC⟩ := Rd.slice hu hc hd H enc w base spare held fuel _ _ hf
  simp [Value.cells] at hcs
  obtain ⟨rfl, rfl, rfl⟩ := hcs
  exact ⟨_, _, xs, rfl, hl, hC⟩
/-- A row's slice is no longer than its weight allows. -/
theorem sized_rows {H : Type} {enc : TypeId × Value → H} {P : Program} {W : World} {base : Nat} {spare : Nat → Bool} {held : Bool} {t e : TypeId} {a : Option Addr} {len cap : Nat} {d : DataW H} {ps : List MemPlace} {ts : List TypeId} {ds : List (DataW H)} {j : Nat}
    (hsz : (DataW.weightsEach P ts ds).all (· ≤ reachBytes) = true) (ht : ts[j]? = some t) (hd : ds[j]? = some d) (hu : P.underlying t = some (.slice e)) {B : Nat} (hB : P.bytesOf e = B)
    (h : DataW.Trod enc P W base spare held t (.slice a len cap) d ps) : len * B ≤ 140737488351232 := by
  obtain ⟨fuel, hf⟩ := h
  rcases open_slice hu hf with ⟨hcs, _⟩ | ⟨x, l, c, m, n, D, Pl, hcs, _, hl, _, hm, hx, _⟩
  · simp [Value.cells] at hcs
    obtain ⟨rfl, rfl, rfl⟩ := hcs
    simp
  · simp [Value.cells] at hcs
    obtain ⟨rfl, rfl, rfl⟩ := hcs
    obtain ⟨hx, _⟩ := Prod.mk.inj hx
    subst hx
    have z := sized_slice hsz ht hd hu
    rw [hB, List.length_map, List.length_range] at z
    exact Nat.le_trans (Nat.mul_le_mul_right _ (Nat.le_add_right _ _)) z
end Go.Proofs.Ytplclofakoffmaa.Pr
