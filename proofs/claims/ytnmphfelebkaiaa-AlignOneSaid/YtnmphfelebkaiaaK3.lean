/-
Several plain texts in one.
-/
import Derived.Test.YtnmphfelebkaiaaK1
import Derived.Test.YtnmphfelebkaiaaK0
import Derived.Test.YtnmphfelebkaiaaGRegF
/-
Several plain texts in one.
-/
namespace Go.Proofs.Ytnmphfelebkaiaa.Pr
open Go.RowKit Go.Proofs.YtnmphfelebkaiaaW.PrintWords Go.Proofs.YtnmphfelebkaiaaW.PrintLast Go.Proofs.YtnmphfelebkaiaaW.PrintMore
set_option linter.unusedVariables false
set_option linter.unusedSimpArgs false
def playFrom (a : List ByteArray) (t : Nat) : List Ed → List ByteArray
 | [] => a.drop t
 | e :: l => (a.take e.f0.toNat).drop t ++ e.f2 ++ playFrom a (e.f0 + e.f1).toNat l
theorem okFrom_cons {fr many : Int} {e : Ed} {l : List Ed} (h : okFrom fr many (e :: l) = true) :
  fr ≤ e.f0 ∧ 0 ≤ e.f1 ∧ e.f0 ≤ many ∧ e.f1 ≤ many - e.f0 ∧ ¬ (e.f1 = 0 ∧ e.f2 = []) ∧ okFrom (e.f0 + e.f1 + 1) many l = true := by
 simp only [okFrom, Bool.and_eq_true, decide_eq_true_eq] at h
 exact ⟨h.1.1, h.1.2.1, h.1.2.2.1, h.1.2.2.2.1, h.1.2.2.2.2, h.2⟩
end Go.Proofs.Ytnmphfelebkaiaa.Pr
-- shrunk
/-
Playing and turning edits: plain facts on lists, no program in sight.
-/
namespace Go.Proofs.Ytnmphfelebkaiaa.Pr
set_option linter.unusedVariables false
set_option linter.unusedSimpArgs false
def playR (s : List ByteArray) (t : Int) : List Ed → List ByteArray
 | [] => s
 | e :: l => s.take (e.f0 - t).toNat ++ e.f2 ++ playR (s.drop (e.f0 - t + e.f1).toNat) (e.f0 + e.f1) l
theorem playFrom_R (a : List ByteArray) : ∀ (l : List Ed) (fr : Int) (t : Nat), (t : Int) ≤ fr → okFrom fr a.length l = true → playFrom a t l = playR (a.drop t) t l
 | [], fr, t, h, ho => rfl
 | e :: l, fr, t, h, ho => by
  obtain ⟨c1, c2, c3, c4, _, ho'⟩ := okFrom_cons ho
  simp only [playFrom, playR]
  rw [playFrom_R a l _ (e.f0 + e.f1).toNat (by omega) ho', List.drop_take, List.drop_drop, Int.toNat_of_nonneg (by omega), show e.f0.toNat - t = (e.f0 - (t : Int)).toNat by omega, show t + (e.f0 - (t : Int) + e.f1).toNat = (e.f0 + e.f1).toNat by omega]
end Go.Proofs.Ytnmphfelebkaiaa.Pr
-- shrunk
/-
What is between two lists: it is right, played it is the other one; its size: plain facts on lists.
-/
namespace Go.Proofs.Ytnmphfelebkaiaa.Pr
set_option linter.unusedVariables false
set_option linter.unusedSimpArgs false
def edG : Option Ed → Int → List Step → List Ed
 | none, _, [] => []
 | some e, _, [] => [e]
 | none, t, .keep :: r => edG none (t + 1) r
 | some e, t, .keep :: r => e :: edG none (t + 1) r
 | none, t, .del :: r => edG (some ⟨t, 1, []⟩) (t + 1) r
 | some e, t, .del :: r => edG (some ⟨e.f0, e.f1 + 1, e.f2⟩) (t + 1) r
 | none, t, .ins s :: r => edG (some ⟨t, 0, [s]⟩) t r
 | some e, t, .ins s :: r => edG (some ⟨e.f0, e.f1, e.f2 ++ [s]⟩) t r
theorem edLast_snoc (out : List Ed) (e : Ed) : edLast (out ++ [e]) = e := by simp [edLast]
theorem addDel_snoc (out : List Ed) (e : Ed) : addDel (out ++ [e]) = out ++ [⟨e.f0, e.f1 + 1, e.f2⟩] := by
 rw [addDel, edLast_snoc]
 simp
theorem addIns_snoc (s : ByteArray) (out : List Ed) (e : Ed) : addIns s (out ++ [e]) = out ++ [⟨e.f0, e.f1, e.f2 ++ [s]⟩] := by
 rw [addIns, edLast_snoc]
 simp
theorem edits_edG : ∀ (r : List Step) (t : Int) (out : List Ed), edits t false out r = out ++ edG none t r ∧ ∀ e, edits t true (out ++ [e]) r = out ++ edG (some e) t r
 | [], t, out => ⟨by simp [edits, edG], fun e => by simp [edits, edG]⟩
 | .keep :: r, t, out => ⟨by rw [edits, edG]; exact (edits_edG r (t + 1) out).1, fun e => by rw [edits, edG, (edits_edG r (t + 1) (out ++ [e])).1]; simp⟩
 | .del :: r, t, out => ⟨by
   rw [edits, edG, opened, if_neg (by simp), addDel_snoc]
   exact (edits_edG r (t + 1) out).2 _, fun e => by
   rw [edits, edG, opened, if_pos rfl, addDel_snoc]
   exact (edits_edG r (t + 1) out).2 _⟩
 | .ins s :: r, t, out => ⟨by
   rw [edits, edG, opened, if_neg (by simp), addIns_snoc]
   exact (edits_edG r t out).2 _, fun e => by
   rw [edits, edG, opened, if_pos rfl, addIns_snoc]
   exact (edits_edG r t out).2 _⟩
def app : List Step → List ByteArray → List ByteArray
 | [], s => s
 | .keep :: r, x :: s => x :: app r s
 | .keep :: r, [] => app r []
 | .del :: r, _ :: s => app r s
 | .del :: r, [] => app r []
 | .ins y :: r, s => y :: app r s
def cnt : List Step → Nat
 | [] => 0
 | .keep :: r => cnt r + 1
 | .del :: r => cnt r + 1
 | .ins _ :: r => cnt r
def chg : List Step → Nat
 | [] => 0
 | .keep :: r => chg r
 | .del :: r => chg r + 1
 | .ins _ :: r => chg r + 1
theorem play_edG : ∀ (r : List Step) (pre s : List ByteArray) (t : Int), cnt r ≤ s.length →
  playR (pre ++ s) t (edG none (t + pre.length) r) = pre ++ app r s ∧
  ∀ (e : Ed) (D : List ByteArray), e.f0 = t + pre.length → e.f1 = D.length → playR (pre ++ D ++ s) t (edG (some e) (t + pre.length + D.length) r) = pre ++ e.f2 ++ app r s
 | [], pre, s, t, h => ⟨by simp [edG, playR, app], fun e D h0 h1 => by
   simp only [edG, playR, app]
   rw [show (e.f0 - t).toNat = pre.length by omega, show (e.f0 - t + e.f1).toNat = (pre ++ D).length by rw [List.length_append]; omega, List.drop_left, List.append_assoc pre D s, List.take_left]⟩
 | .keep :: r, pre, [], t, h => by simp [cnt] at h
 | .keep :: r, pre, x :: s, t, h => by
  have hc : cnt r ≤ s.length := by simp [cnt] at h; exact h
  refine ⟨?_, fun e D h0 h1 => ?_⟩
  ·have h2 := (play_edG r (pre ++ [x]) s t hc).1
   rw [List.length_append, List.length_singleton] at h2
   rw [edG, app, show t + (pre.length : Int) + 1 = t + ((pre.length + 1 : Nat) : Int) by omega]
   simpa using h2
  ·rw [edG, app]
   simp only [playR]
   have h2 := (play_edG r [x] s (e.f0 + e.f1) hc).1
   rw [show (e.f0 - t).toNat = pre.length by omega, show (e.f0 - t + e.f1).toNat = (pre ++ D).length by rw [List.length_append]; omega, List.drop_left, List.append_assoc pre D, List.take_left]
   rw [show t + (pre.length : Int) + (D.length : Int) + 1 = e.f0 + e.f1 + (([x] : List ByteArray).length : Int) by simp; omega]
   have h3 : playR (x :: s) (e.f0 + e.f1) (edG none (e.f0 + e.f1 + (([x] : List ByteArray).length : Int)) r) = x :: app r s := by simpa using h2
   rw [h3]
 | .del :: r, pre, [], t, h => by simp [cnt] at h
 | .del :: r, pre, x :: s, t, h => by
  have hc : cnt r ≤ s.length := by simp [cnt] at h; exact h
  refine ⟨?_, fun e D h0 h1 => ?_⟩
  ·have h2 := (play_edG r pre s t hc).2 ⟨t + pre.length, 1, []⟩ [x] rfl (by simp)
   rw [edG, app]
   simpa using h2
  ·have h2 := (play_edG r pre s t hc).2 ⟨e.f0, e.f1 + 1, e.f2⟩ (D ++ [x]) h0 (by simp [h1])
   rw [edG, app]
   rw [List.length_append, List.length_singleton] at h2
   rw [show t + (pre.length : Int) + (D.length : Int) + 1 = t + (pre.length : Int) + ((D.length + 1 : Nat) : Int) by omega]
   simpa using h2
 | .ins y :: r, pre, s, t, h => by
  have hc : cnt r ≤ s.length := by simpa [cnt] using h
  refine ⟨?_, fun e D h0 h1 => ?_⟩
  ·have h2 := (play_edG r pre s t hc).2 ⟨t + pre.length, 0, [y]⟩ [] rfl (by simp)
   rw [edG, app]
   simpa using h2
  ·have h2 := (play_edG r pre s t hc).2 ⟨e.f0, e.f1, e.f2 ++ [y]⟩ D h0 h1
   rw [edG, app]
   simpa using h2
theorem ok_edG (many : Int) : ∀ (r : List Step) (fr t : Int), t + cnt r ≤ many →
  (fr ≤ t → okFrom fr many (edG none t r) = true) ∧ ∀ e : Ed, fr ≤ e.f0 → 0 ≤ e.f1 → ¬ (e.f1 = 0 ∧ e.f2 = []) → e.f0 + e.f1 = t → okFrom fr many (edG (some e) t r) = true
 | [], fr, t, h => ⟨fun _ => rfl, fun e h0 h1 h2 h3 => by
   simp only [cnt] at h
   simp only [edG, okFrom, Bool.and_true]
   exact decide_eq_true ⟨h0, h1, by omega, by omega, h2⟩⟩
 | .keep :: r, fr, t, h => ⟨fun hf => by
   simp only [cnt] at h
   rw [edG]
   exact (ok_edG many r fr (t + 1) (by push_cast at h; omega)).1 (by omega), fun e h0 h1 h2 h3 => by
   simp only [cnt] at h
   simp only [edG, okFrom]
   rw [decide_eq_true ⟨h0, h1, by push_cast at h; omega, by push_cast at h; omega, h2⟩, Bool.true_and]
   exact (ok_edG many r _ (t + 1) (by push_cast at h; omega)).1 (by omega)⟩
 | .del :: r, fr, t, h => ⟨fun hf => by
   simp only [cnt] at h
   rw [edG]
   exact (ok_edG many r fr (t + 1) (by push_cast at h; omega)).2 ⟨t, 1, []⟩ hf (by simp) (by simp) rfl, fun e h0 h1 h2 h3 => by
   simp only [cnt] at h
   rw [edG]
   exact (ok_edG many r fr (t + 1) (by push_cast at h; omega)).2 ⟨e.f0, e.f1 + 1, e.f2⟩ h0 (by show 0 ≤ e.f1 + 1; omega) (fun hh => by have : e.f1 + 1 = 0 := hh.1; omega) (by show e.f0 + (e.f1 + 1) = t + 1; omega)⟩
 | .ins y :: r, fr, t, h => ⟨fun hf => by
   simp only [cnt] at h
   rw [edG]
   exact (ok_edG many r fr t h).2 ⟨t, 0, [y]⟩ hf (by simp) (by simp) (by simp), fun e h0 h1 h2 h3 => by
   simp only [cnt] at h
   rw [edG]
   exact (ok_edG many r fr t h).2 ⟨e.f0, e.f1, e.f2 ++ [y]⟩ h0 h1 (by simp) h3⟩
theorem size_edG : ∀ (r : List Step) (t : Int), sizeE (edG none t r) = chg r ∧ ∀ e : Ed, 0 ≤ e.f1 → sizeE (edG (some e) t r) = e.f1 + e.f2.length + chg r
 | [], t => ⟨by simp [edG, sizeE, chg], fun e h => by simp only [edG, sizeE, chg]; omega⟩
 | .keep :: r, t => ⟨by rw [edG, chg]; exact (size_edG r _).1, fun e h => by rw [edG, chg, sizeE, (size_edG r _).1]; omega⟩
 | .del :: r, t => ⟨by rw [edG, chg, (size_edG r _).2 _ (by simp)]; simp; omega, fun e h => by rw [edG, chg, (size_edG r _).2 _ (by show 0 ≤ e.f1 + 1; omega)]; push_cast; omega⟩
 | .ins y :: r, t => ⟨by rw [edG, chg, (size_edG r _).2 _ (by simp)]; simp; omega, fun e h => by rw [edG, chg, (size_edG r _).2 ⟨e.f0, e.f1, e.f2 ++ [y]⟩ h]; simp; omega⟩
theorem steps_app (E : List ByteArray) : ∀ x y : List ByteArray, app (steps x y) (x ++ E) = y ++ E ∧ cnt (steps x y) = x.length
 | [], [] => ⟨by simp [steps, app], by simp [steps, cnt]⟩
 | [], y :: ys => by
  have h := steps_app E [] ys
  rw [steps]
  exact ⟨by rw [app, h.1]; rfl, by rw [cnt, h.2]⟩
 | x :: xs, [] => by
  have h := steps_app E xs []
  rw [steps]
  exact ⟨by rw [List.cons_append, app, h.1], by rw [cnt, h.2]; rfl⟩
 | x :: xs, y :: ys => by
  rw [steps]
  by_cases hxy : x = y
  ·have h := steps_app E xs ys
   rw [if_pos hxy]
   exact ⟨by rw [List.cons_append, app, h.1, hxy]; rfl, by rw [cnt, h.2]; rfl⟩
  ·rw [if_neg hxy]
   split
   ·have h := steps_app E xs (y :: ys)
    exact ⟨by rw [List.cons_append, app, h.1], by rw [cnt, h.2]; rfl⟩
   ·have h := steps_app E (x :: xs) ys
    exact ⟨by rw [app, h.1]; rfl, by rw [cnt, h.2]⟩
termination_by x y => x.length + y.length
theorem lcs_nil (x : List ByteArray) : lcsLen x [] = 0 := by cases x <;> simp [lcsLen]
theorem nil_lcs (y : List ByteArray) : lcsLen [] y = 0 := by simp [lcsLen]
theorem steps_chg : ∀ x y : List ByteArray, chg (steps x y) + 2 * lcsLen x y = x.length + y.length
 | [], [] => by simp [steps, chg, lcsLen]
 | [], y :: ys => by
  have h := steps_chg [] ys
  rw [steps, chg, nil_lcs]
  rw [nil_lcs] at h
  simp at h ⊢
  omega
 | x :: xs, [] => by
  have h := steps_chg xs []
  rw [steps, chg, lcs_nil]
  rw [lcs_nil] at h
  simp at h ⊢
  omega
 | x :: xs, y :: ys => by
  rw [steps, lcsLen]
  by_cases hxy : x = y
  ·have h := steps_chg xs ys
   rw [if_pos hxy, if_pos hxy, chg]
   simp only [List.length_cons]
   omega
  ·rw [if_neg hxy, if_neg hxy]
   have h1 := steps_chg xs (y :: ys)
   have h2 := steps_chg (x :: xs) ys
   simp only [List.length_cons] at h1 h2 ⊢
   split
   ·rw [chg]; omega
   ·rw [chg]; omega
termination_by x y => x.length + y.length
theorem commonE_le : ∀ a b : List ByteArray, common a b ≤ a.length ∧ common a b ≤ b.length ∧ a.take (common a b) = b.take (common a b)
 | [], b => by simp [common]
 | x :: xs, [] => by simp [common]
 | x :: xs, y :: ys => by
  rw [common]
  by_cases h : x = y
  ·have ih := commonE_le xs ys
   rw [if_pos h]
   exact ⟨by simp; exact ih.1, by simp; exact ih.2.1, by rw [List.take_succ_cons, List.take_succ_cons, ih.2.2, h]⟩
  ·rw [if_neg h]; simp
theorem commonE_self : ∀ a : List ByteArray, common a a = a.length
 | [] => rfl
 | x :: xs => by rw [common, if_pos rfl, commonE_self xs]; rfl
theorem between_split (a b : List ByteArray) : ∃ F x y E, a = F ++ (x ++ E) ∧ b = F ++ (y ++ E) ∧ between a b = midEdits (F.length : Int) x y := by
 obtain ⟨h1, h2, h3⟩ := commonE_le a b
 generalize ha : a.drop (common a b) = a' 
 generalize hb : b.drop (common a b) = b'
 obtain ⟨g1, g2, g3⟩ := commonE_le a'.reverse b'.reverse
 rw [List.length_reverse] at g1 g2
 have hE : a'.drop (a'.length - common a'.reverse b'.reverse) = b'.drop (b'.length - common a'.reverse b'.reverse) := by
  apply List.reverse_inj.1
  rw [List.reverse_drop, List.reverse_drop, show a'.length - (a'.length - common a'.reverse b'.reverse) = common a'.reverse b'.reverse by omega, show b'.length - (b'.length - common a'.reverse b'.reverse) = common a'.reverse b'.reverse by omega]
  exact g3
 refine ⟨a.take (common a b), a'.take (a'.length - common a'.reverse b'.reverse), b'.take (b'.length - common a'.reverse b'.reverse), a'.drop (a'.length - common a'.reverse b'.reverse), ?_, ?_, ?_⟩
 ·rw [List.take_append_drop, ← ha, List.take_append_drop]
 ·rw [hE, List.take_append_drop, h3, ← hb, List.take_append_drop]
 ·rw [between, midOf, endOf, frontOf, ha, hb, List.length_take, Nat.min_eq_left h1]
theorem playR_block (pre x y E : List ByteArray) : playR (pre ++ (x ++ E)) 0 [⟨(pre.length : Int), (x.length : Int), y⟩] = pre ++ (y ++ E) := by
 simp only [playR]
 rw [show ((pre.length : Int) - 0).toNat = pre.length by omega, show ((pre.length : Int) - 0 + (x.length : Int)).toNat = (pre ++ x).length by rw [List.length_append]; omega, List.take_left, ← List.append_assoc pre x, List.drop_left, List.append_assoc]
theorem mid_ok (F x y E : List ByteArray) : okFrom 0 ((F ++ (x ++ E)).length : Int) (midEdits (F.length : Int) x y) = true ∧ playR (F ++ (x ++ E)) 0 (midEdits (F.length : Int) x y) = F ++ (y ++ E) := by
 rw [midEdits]
 by_cases c1 : x = [] ∧ y = []
 ·rw [if_pos c1]
  exact ⟨rfl, by rw [c1.1, c1.2]; rfl⟩
 ·rw [if_neg c1]
  by_cases c2 : x = [] ∨ y = [] ∨ 65536 < x.length * y.length
  ·rw [if_pos c2]
   refine ⟨?_, playR_block F x y E⟩
   simp only [okFrom, Bool.and_true, List.length_append]
   refine decide_eq_true ⟨by omega, by omega, by push_cast; omega, by push_cast; omega, fun h => c1 ⟨List.eq_nil_of_length_eq_zero (by have := h.1; omega), h.2⟩⟩
  ·rw [if_neg c2, (edits_edG _ _ []).1, List.nil_append]
   have hs := steps_app E x y
   refine ⟨(ok_edG _ _ 0 _ (by rw [hs.2, List.length_append, List.length_append]; push_cast; omega)).1 (by omega), ?_⟩
   have h := (play_edG (steps x y) F (x ++ E) 0 (by rw [hs.2, List.length_append]; omega)).1
   rw [hs.1, Int.zero_add] at h
   exact h
theorem between_ok (a b : List ByteArray) : okFrom 0 a.length (between a b) = true ∧ playFrom a 0 (between a b) = b := by
 obtain ⟨F, x, y, E, rfl, rfl, e⟩ := between_split a b
 rw [e]
 have h := mid_ok F x y E
 refine ⟨h.1, ?_⟩
 rw [playFrom_R _ _ 0 0 (by omega) h.1, List.drop_zero]
 exact h.2
theorem between_self (a : List ByteArray) : between a a = [] := by
 have e : common a a = a.length := commonE_self a
 rw [between, midOf, endOf, frontOf, e]
 simp [midEdits]
end Go.Proofs.Ytnmphfelebkaiaa.Pr
-- shrunk
/-
Longest common subsequences: what their lengths satisfy. Plain facts on lists.
-/
namespace Go.Proofs.Ytnmphfelebkaiaa.Pr
set_option linter.unusedVariables false
set_option linter.unusedSimpArgs false
open List (Sublist)
theorem lcs_has : ∀ x y : List ByteArray, ∃ s : List ByteArray, s.Sublist x ∧ s.Sublist y ∧ s.length = lcsLen x y
 | [], y => ⟨[], List.nil_sublist _, List.nil_sublist _, by simp [lcsLen]⟩
 | x :: xs, [] => ⟨[], List.nil_sublist _, List.nil_sublist _, by simp [lcsLen]⟩
 | x :: xs, y :: ys => by
  rw [lcsLen]
  by_cases h : x = y
  ·obtain ⟨s, h1, h2, h3⟩ := lcs_has xs ys
   rw [if_pos h]
   exact ⟨x :: s, h1.cons_cons x, by rw [h]; exact h2.cons_cons y, by simp [h3]⟩
  ·rw [if_neg h]
   rcases Nat.le_total (lcsLen (x :: xs) ys) (lcsLen xs (y :: ys)) with hl | hl
   ·obtain ⟨s, h1, h2, h3⟩ := lcs_has xs (y :: ys)
    exact ⟨s, h1.cons x, h2, by rw [h3]; omega⟩
   ·obtain ⟨s, h1, h2, h3⟩ := lcs_has (x :: xs) ys
    exact ⟨s, h1, h2.cons y, by rw [h3]; omega⟩
termination_by x y => x.length + y.length
theorem lcs_most : ∀ (x y s : List ByteArray), s.Sublist x → s.Sublist y → s.length ≤ lcsLen x y
 | [], y, s, h1, h2 => by rw [List.sublist_nil.1 h1]; simp
 | x :: xs, [], s, h1, h2 => by rw [List.sublist_nil.1 h2]; simp
 | x :: xs, y :: ys, s, h1, h2 => by
  rw [lcsLen]
  by_cases h : x = y
  ·rw [if_pos h]
   match s with
   | [] => simp
   | z :: s' =>
    have g1 : s'.Sublist xs := by
     have := List.Sublist.tail h1
     simpa using this
    have g2 : s'.Sublist ys := by
     have := List.Sublist.tail h2
     simpa using this
    have := lcs_most xs ys s' g1 g2
    simp only [List.length_cons]
    omega
  ·rw [if_neg h]
   cases h1 with
   | cons _ g1 =>
    have := lcs_most xs (y :: ys) s g1 h2
    omega
   | cons_cons _ g1 =>
    cases h2 with
    | cons _ g2 =>
     have := lcs_most (x :: xs) ys _ (g1.cons_cons x) g2
     omega
    | cons_cons _ g2 => exact absurd rfl h
termination_by x y => x.length + y.length
theorem lcs_unique {x y : List ByteArray} {n : Nat} (h1 : ∃ s : List ByteArray, s.Sublist x ∧ s.Sublist y ∧ s.length = n) (h2 : ∀ s : List ByteArray, s.Sublist x → s.Sublist y → s.length ≤ n) : lcsLen x y = n := by
 obtain ⟨s, a1, a2, a3⟩ := h1
 obtain ⟨t, b1, b2, b3⟩ := lcs_has x y
 have := lcs_most x y s a1 a2
 have := h2 t b1 b2
 omega
theorem lcs_reverse (x y : List ByteArray) : lcsLen x.reverse y.reverse = lcsLen x y := by
 obtain ⟨t, b1, b2, b3⟩ := lcs_has x y
 refine lcs_unique ⟨t.reverse, b1.reverse, b2.reverse, by simpa using b3⟩ (fun s h1 h2 => ?_)
 have := lcs_most x y s.reverse (by have := h1.reverse; simpa using this) (by have := h2.reverse; simpa using this)
 simpa using this
theorem lcs_front : ∀ (F x y : List ByteArray), lcsLen (F ++ x) (F ++ y) = F.length + lcsLen x y
 | [], x, y => by simp
 | f :: F, x, y => by rw [List.cons_append, List.cons_append, lcsLen, if_pos rfl, lcs_front F x y, List.length_cons]; omega
theorem lcs_end (x y E : List ByteArray) : lcsLen (x ++ E) (y ++ E) = lcsLen x y + E.length := by
 rw [← lcs_reverse, List.reverse_append, List.reverse_append, lcs_front, lcs_reverse, List.length_reverse]; omega
theorem between_size (a b : List ByteArray) (h : a.length * b.length ≤ 65536) : sizeE (between a b) + 2 * (lcsLen a b : Int) = a.length + b.length := by
 obtain ⟨F, x, y, E, rfl, rfl, e⟩ := between_split a b
 rw [e, lcs_front, lcs_end, midEdits]
 have hxy : x.length * y.length ≤ 65536 := Nat.le_trans (Nat.mul_le_mul (by simp only [List.length_append]; omega) (by simp only [List.length_append]; omega)) h
 simp only [List.length_append]
 by_cases c1 : x = [] ∧ y = []
 ·rw [if_pos c1, c1.1, c1.2]
  simp [sizeE, lcsLen]
  omega
 ·rw [if_neg c1]
  by_cases c2 : x = [] ∨ y = [] ∨ 65536 < x.length * y.length
  ·rw [if_pos c2]
   have h0 : lcsLen x y = 0 := by
    rcases c2 with c | c | c
    ·rw [c, nil_lcs]
    ·rw [c, lcs_nil]
    ·omega
   rw [h0]
   simp only [sizeE]
   push_cast
   omega
  ·rw [if_neg c2, (edits_edG _ _ []).1, List.nil_append, (size_edG _ _).1]
   have := steps_chg x y
   push_cast
   omega
end Go.Proofs.Ytnmphfelebkaiaa.Pr
-- shrunk
/-
Where the regions stand: the lines of either side behind the edits so far, cluster by cluster. Plain Lean.
-/
namespace Go.Proofs.Ytnmphfelebkaiaa.Pr
open Go.RowKit Go.Proofs.YtnmphfelebkaiaaW.PrintWords Go.Proofs.YtnmphfelebkaiaaW.PrintLast Go.Proofs.YtnmphfelebkaiaaW.PrintMore
set_option linter.unusedVariables false
set_option linter.unusedSimpArgs false
def moreE : List Ed → Int
 | [] => 0
 | e :: l => ((e.f2.length : Int) - e.f1) + moreE l
structure Sync (o a : List ByteArray) (t x : Nat) (l : List Ed) : Prop where
 ht : t ≤ o.length
 hx : x ≤ a.length
 ok : okFrom t o.length l = true
 eq : a.drop x = playR (o.drop t) t l
theorem okFrom_le {fr fr' many : Int} {l : List Ed} (h : fr' ≤ fr) (ho : okFrom fr many l = true) : okFrom fr' many l = true := by
 cases l with
 | nil => rfl
 | cons e l =>
  simp only [okFrom, Bool.and_eq_true, decide_eq_true_eq] at ho ⊢
  exact ⟨⟨by omega, ho.1.2⟩, ho.2⟩
theorem okFrom_head {fr many : Int} {e : Ed} {l : List Ed} (ho : okFrom fr many (e :: l) = true) : fr ≤ e.f0 ∧ 0 ≤ e.f1 ∧ e.f0 + e.f1 ≤ many ∧ ¬ (e.f1 = 0 ∧ e.f2 = []) ∧ okFrom (e.f0 + e.f1 + 1) many l = true := by
 simp only [okFrom, Bool.and_eq_true, decide_eq_true_eq] at ho
 exact ⟨by omega, by omega, by omega, ho.1.2.2.2.2, ho.2⟩
theorem okFrom_mem : ∀ {l : List Ed} {fr many : Int}, okFrom fr many l = true → ∀ e ∈ l, fr ≤ e.f0 ∧ 0 ≤ e.f1 ∧ e.f0 + e.f1 ≤ many
 | e0 :: l, fr, many, ho, e, he => by
  obtain ⟨h1, h2, h3, h4, h5⟩ := okFrom_head ho
  rcases List.mem_cons.1 he with rfl | he
  ·exact ⟨h1, h2, h3⟩
  ·have := okFrom_mem h5 e he
   omega
theorem Sync.gap {o a : List ByteArray} {t x : Nat} {l : List Ed} (h : Sync o a t x l) {f : Nat} (h1 : t ≤ f) (h2 : f ≤ o.length) (h3 : okFrom f o.length l = true) :
  Sync o a f (x + (f - t)) l ∧ (a.drop x).take (f - t) = (o.drop t).take (f - t) := by
 have he := h.eq
 have hl : f - t ≤ (o.drop t).length := by rw [List.length_drop]; omega
 have key : playR (o.drop t) t l = (o.drop t).take (f - t) ++ playR (o.drop f) f l := by
  have hd : o.drop f = (o.drop t).drop (f - t) := by rw [List.drop_drop]; congr 1; omega
  cases l with
  | nil => simp only [playR]; rw [hd, List.take_append_drop]
  | cons e l =>
   obtain ⟨k1, k2, k3, _⟩ := okFrom_head h3
   simp only [playR]
   rw [← List.append_assoc]
   congr 1
   ·have e1 : (e.f0 - (t : Int)).toNat = (f - t) + (e.f0 - (f : Int)).toNat := by omega
    rw [e1, List.take_add, hd, List.append_assoc]
   ·have e2 : (e.f0 - (t : Int) + e.f1).toNat = (f - t) + (e.f0 - (f : Int) + e.f1).toNat := by omega
    rw [e2, ← List.drop_drop, hd]
 have hx := h.hx
 have hlen : x + (f - t) ≤ a.length := by
  have h4 : (a.drop x).length = ((o.drop t).take (f - t) ++ playR (o.drop f) f l).length := by rw [he, key]
  rw [List.length_append, List.length_take, Nat.min_eq_left hl, List.length_drop] at h4
  omega
 have ht : (a.drop x).take (f - t) = (o.drop t).take (f - t) := by
  rw [he, key, List.take_append_of_le_length (by rw [List.length_take]; omega), List.take_take, Nat.min_self]
 refine ⟨⟨h2, hlen, h3, ?_⟩, ht⟩
 rw [← List.drop_drop, he, key, List.drop_append_of_le_length (by rw [List.length_take]; omega), List.drop_of_length_le (by rw [List.length_take]; omega), List.nil_append]
theorem Sync.take {o a : List ByteArray} : ∀ (p : List Ed) {f x : Nat} {l : List Ed} {t : Nat}, Sync o a f x (p ++ l) → (∀ e ∈ p, e.f0 + e.f1 ≤ (t : Int)) → f ≤ t → t ≤ o.length → okFrom t o.length l = true →
  ∃ y : Nat, (y : Int) = x + ((t : Int) - f) + moreE p ∧ x ≤ y ∧ Sync o a t y l ∧ (p = [] → (a.drop x).take (y - x) = (o.drop f).take (t - f))
 | [], f, x, l, t, h, _, h1, h2, h3 => by
  obtain ⟨k1, k2⟩ := h.gap h1 h2 h3
  exact ⟨x + (t - f), by simp only [moreE]; omega, by omega, k1, fun _ => by rw [show x + (t - f) - x = t - f by omega]; exact k2⟩
 | e :: p, f, x, l, t, h, hp, h1, h2, h3 => by
  obtain ⟨c1, c2, c3, c4, c5⟩ := okFrom_head h.ok
  have hte := hp e List.mem_cons_self
  obtain ⟨g, hg⟩ : ∃ g : Nat, (g : Int) = e.f0 := ⟨e.f0.toNat, by omega⟩
  obtain ⟨d, hd⟩ : ∃ d : Nat, (d : Int) = e.f1 := ⟨e.f1.toNat, by omega⟩
  obtain ⟨k1, _⟩ := h.gap (f := g) (by omega) (by omega) (by
   have := h.ok
   rw [List.cons_append] at this ⊢
   simp only [okFrom, Bool.and_eq_true, decide_eq_true_eq] at this ⊢
   exact ⟨⟨by omega, this.1.2⟩, this.2⟩)
  have he := k1.eq
  rw [List.cons_append, playR, show (e.f0 - (g : Int)).toNat = 0 by omega, List.take_zero, List.nil_append, show (e.f0 - (g : Int) + e.f1).toNat = d by omega, List.drop_drop, show e.f0 + e.f1 = ((g + d : Nat) : Int) by omega] at he
  have hx : x + (g - f) + e.f2.length ≤ a.length := by
   have h4 := congrArg List.length he
   have := k1.hx
   rw [List.length_append, List.length_drop] at h4
   omega
  have hs : Sync o a (g + d) (x + (g - f) + e.f2.length) (p ++ l) := ⟨by omega, hx, okFrom_le (by omega) c5, by
   rw [← List.drop_drop, he, List.drop_append_of_le_length (Nat.le_refl _), List.drop_length, List.nil_append]⟩
  obtain ⟨y, y1, y2, y3, _⟩ := Sync.take p hs (fun e' he' => hp e' (List.mem_cons_of_mem _ he')) (by omega) h2 h3
  exact ⟨y, by simp only [moreE]; omega, by omega, y3, fun h => by cases h⟩
structure Ate (c c' : Cl) (l0 l1 l0' l1' p0 p1 : List Ed) : Prop where
 e0 : l0 = p0 ++ l0'
 e1 : l1 = p1 ++ l1'
 m0 : c'.m0 = c.m0 + moreE p0
 m1 : c'.m1 = c.m1 + moreE p1
 h0 : c'.h0 = (c.h0 || !p0.isEmpty)
 h1 : c'.h1 = (c.h1 || !p1.isEmpty)
 f : c'.f = c.f
 t : c.t ≤ c'.t
 n0 : ∀ e ∈ p0, e.f0 + e.f1 ≤ c'.t
 n1 : ∀ e ∈ p1, e.f0 + e.f1 ≤ c'.t
 s0 : meetsE c'.t l0' = false
 s1 : meetsE c'.t l1' = false
 top : ∀ M : Int, c.t ≤ M → (∀ e ∈ p0, e.f0 + e.f1 ≤ M) → (∀ e ∈ p1, e.f0 + e.f1 ≤ M) → c'.t ≤ M
theorem hd_split {l : List Ed} (h : 0 < l.length) : l = hdE l :: l.drop 1 := by
 cases l with
 | nil => simp at h
 | cons e l => rfl
theorem absorb_ate (l0 l1 : List Ed) (c : Cl) : ∃ p0 p1, Ate c (absorb c l0 l1).1 l0 l1 (absorb c l0 l1).2.1 (absorb c l0 l1).2.2 p0 p1 := by
 generalize hn : l0.length + l1.length = n
 induction n using Nat.strongRecOn generalizing c l0 l1 with
 | _ n ih =>
  cases q0 : meetsE c.t l0 with
  | true =>
   have hl := meets_len q0
   rw [absorb_0 q0]
   obtain ⟨p0, p1, h⟩ := ih _ (by rw [← hn, List.length_drop]; omega) (l0.drop 1) l1 (take0 c (hdE l0)) rfl
   have ht : max c.t ((hdE l0).f0 + (hdE l0).f1) ≤ _ := h.t
   refine ⟨hdE l0 :: p0, p1, ⟨by rw [List.cons_append, ← h.e0]; exact hd_split hl, h.e1, ?_, h.m1, ?_, h.h1, h.f, ?_, ?_, h.n1, h.s0, h.s1, ?_⟩⟩
   ·rw [h.m0]; simp only [Pr.take0, moreE]; omega
   ·rw [h.h0]; simp [Pr.take0]
   ·omega
   ·intro e he
    rcases List.mem_cons.1 he with rfl | he
    ·omega
    ·exact h.n0 e he
   ·intro M h1 h2 h3
    refine h.top M ?_ (fun e he => h2 e (List.mem_cons_of_mem _ he)) h3
    have := h2 _ List.mem_cons_self
    simp only [Pr.take0]
    omega
  | false =>
   cases q1 : meetsE c.t l1 with
   | true =>
    have hl := meets_len q1
    rw [absorb_1 q0 q1]
    obtain ⟨p0, p1, h⟩ := ih _ (by rw [← hn, List.length_drop]; omega) l0 (l1.drop 1) (take1 c (hdE l1)) rfl
    have ht : max c.t ((hdE l1).f0 + (hdE l1).f1) ≤ _ := h.t
    refine ⟨p0, hdE l1 :: p1, ⟨h.e0, by rw [List.cons_append, ← h.e1]; exact hd_split hl, h.m0, ?_, h.h0, ?_, h.f, ?_, h.n0, ?_, h.s0, h.s1, ?_⟩⟩
    ·rw [h.m1]; simp only [Pr.take1, moreE]; omega
    ·rw [h.h1]; simp [Pr.take1]
    ·omega
    ·intro e he
     rcases List.mem_cons.1 he with rfl | he
     ·omega
     ·exact h.n1 e he
    ·intro M h1 h2 h3
     refine h.top M ?_ h2 (fun e he => h3 e (List.mem_cons_of_mem _ he))
     have := h3 _ List.mem_cons_self
     simp only [Pr.take1]
     omega
   | false =>
    rw [absorb_no q0 q1]
    exact ⟨[], [], ⟨rfl, rfl, by simp [moreE], by simp [moreE], by simp, by simp, rfl, Int.le_refl _, by simp, by simp, q0, q1, fun M h _ _ => h⟩⟩
theorem okFrom_suffix : ∀ (p : List Ed) {fr many : Int} {l : List Ed}, okFrom fr many (p ++ l) = true → okFrom fr many l = true
 | [], fr, many, l, h => h
 | e :: p, fr, many, l, h => by
  obtain ⟨h1, h2, _, _, h5⟩ := okFrom_head h
  exact okFrom_le (by omega) (okFrom_suffix p h5)
theorem okFrom_past {t fr many : Int} {l : List Ed} (h : okFrom fr many l = true) (hm : meetsE t l = false) : okFrom (t + 1) many l = true := by
 cases l with
 | nil => rfl
 | cons e l =>
  have h1 : ¬ e.f0 ≤ t := by simpa [meetsE, hdE] using hm
  simp only [okFrom, Bool.and_eq_true, decide_eq_true_eq] at h ⊢
  exact ⟨⟨by omega, h.1.2⟩, h.2⟩
theorem okFrom_hd {t many : Int} {l : List Ed} (h : okFrom t many l = true) {f : Int} (hf : 0 < l.length → f ≤ (hdE l).f0) : okFrom f many l = true := by
 cases l with
 | nil => rfl
 | cons e l =>
  have h1 := hf (by simp)
  have h2 : hdE (e :: l) = e := rfl
  rw [h2] at h1
  simp only [okFrom, Bool.and_eq_true, decide_eq_true_eq] at h ⊢
  exact ⟨⟨by omega, h.1.2⟩, h.2⟩
theorem okFrom_hd_b {t many : Int} {l : List Ed} (h : okFrom t many l = true) (h0 : 0 < l.length) : t ≤ (hdE l).f0 ∧ (hdE l).f0 ≤ many := by
 cases l with
 | nil => simp at h0
 | cons e l =>
  obtain ⟨h1, h2, h3, _⟩ := okFrom_head h
  have h4 : hdE (e :: l) = e := rfl
  rw [h4]
  omega
theorem start_spec {t many : Int} {l0 l1 : List Ed} (h0 : okFrom t many l0 = true) (h1 : okFrom t many l1 = true) (hl : 0 < l0.length + l1.length) :
  t ≤ (startC l0 l1).f ∧ (startC l0 l1).f ≤ many ∧ okFrom (startC l0 l1).f many l0 = true ∧ okFrom (startC l0 l1).f many l1 = true := by
 cases hs : side1 l0 l1 with
 | true =>
  have e : (startC l0 l1).f = (hdE l1).f0 := by simp only [startC, if_pos hs]
  simp only [side1, Bool.or_eq_true, Bool.and_eq_true, decide_eq_true_eq] at hs
  have hb := okFrom_hd_b h1 (by omega)
  rw [e]
  exact ⟨hb.1, hb.2, okFrom_hd h0 (fun h => by omega), okFrom_hd h1 (fun _ => Int.le_refl _)⟩
 | false =>
  have e : (startC l0 l1).f = (hdE l0).f0 := by simp only [startC, hs]; rfl
  simp only [side1, Bool.or_eq_false_iff, Bool.and_eq_false_iff, decide_eq_false_iff_not] at hs
  have hb := okFrom_hd_b h0 (by omega)
  rw [e]
  exact ⟨hb.1, hb.2, okFrom_hd h0 (fun _ => Int.le_refl _), okFrom_hd h1 (fun h => by omega)⟩
structure Inv (o a b : List ByteArray) (s : Rs) (l0 l1 : List Ed) (t x y : Nat) : Prop where
 at_ : s.at_ = (t : Int)
 so : s.last.f1.f0 + s.last.f1.f1 = (t : Int)
 sa : s.last.f2.f0 + s.last.f2.f1 = (x : Int)
 sb : s.last.f3.f0 + s.last.f3.f1 = (y : Int)
 po : 0 ≤ s.last.f1.f0 ∧ 0 ≤ s.last.f1.f1
 pa : 0 ≤ s.last.f2.f0 ∧ 0 ≤ s.last.f2.f1
 pb : 0 ≤ s.last.f3.f0 ∧ 0 ≤ s.last.f3.f1
 A : Sync o a t x l0
 B : Sync o b t y l1
structure Rnd (o a b : List ByteArray) (s : Rs) (l0 l1 : List Ed) (t x y : Nat) (c : Cl) (l0' l1' p0 p1 : List Ed) (f x1 y1 t2 x2 y2 : Nat) : Prop where
 ate : Ate (startC l0 l1) c l0 l1 l0' l1' p0 p1
 cf : c.f = (f : Int)
 ct : c.t = (t2 : Int)
 m0 : c.m0 = moreE p0
 m1 : c.m1 = moreE p1
 h0 : c.h0 = !p0.isEmpty
 h1 : c.h1 = !p1.isEmpty
 tf : t ≤ f
 ft : f ≤ t2
 ex1 : x1 = x + (f - t)
 ey1 : y1 = y + (f - t)
 ex2 : (x2 : Int) = x1 + ((t2 : Int) - f) + moreE p0
 ey2 : (y2 : Int) = y1 + ((t2 : Int) - f) + moreE p1
 lx : x1 ≤ x2
 ly : y1 ≤ y2
 ga : (a.drop x).take (f - t) = (o.drop t).take (f - t)
 gb : (b.drop y).take (f - t) = (o.drop t).take (f - t)
 na : p0 = [] → (a.drop x1).take (x2 - x1) = (o.drop f).take (t2 - f)
 nb : p1 = [] → (b.drop y1).take (y2 - y1) = (o.drop f).take (t2 - f)
 A2 : Sync o a t2 x2 l0'
 B2 : Sync o b t2 y2 l1'
 k0 : okFrom (t2 + 1) o.length l0' = true
 k1 : okFrom (t2 + 1) o.length l1' = true
 f0 : okFrom f o.length l0 = true
 f1 : okFrom f o.length l1 = true
 some_ : p0 ≠ [] ∨ p1 ≠ []
 less : l0'.length + l1'.length < l0.length + l1.length
theorem Inv.round {o a b : List ByteArray} {s : Rs} {l0 l1 : List Ed} {t x y : Nat} (h : Inv o a b s l0 l1 t x y) (hl : 0 < l0.length + l1.length) :
  ∃ p0 p1 f x1 y1 t2 x2 y2, Rnd o a b s l0 l1 t x y (absorb (startC l0 l1) l0 l1).1 (absorb (startC l0 l1) l0 l1).2.1 (absorb (startC l0 l1) l0 l1).2.2 p0 p1 f x1 y1 t2 x2 y2 := by
 obtain ⟨p0, p1, hate⟩ := absorb_ate l0 l1 (startC l0 l1)
 have hlt := start_lt l0 l1 hl
 obtain ⟨s1, s2, s3, s4⟩ := start_spec h.A.ok h.B.ok hl
 have hst : (startC l0 l1).t = (startC l0 l1).f := rfl
 obtain ⟨f, hf⟩ : ∃ f : Nat, (f : Int) = (startC l0 l1).f := ⟨(startC l0 l1).f.toNat, by omega⟩
 rw [← hf] at s1 s2 s3 s4
 generalize hR : absorb (startC l0 l1) l0 l1 = R at hate hlt ⊢
 obtain ⟨c, l0', l1'⟩ := R
 simp only at hate hlt ⊢
 have hct : c.t ≤ o.length := hate.top _ (by rw [hst, ← hf]; exact s2) (fun e he => (okFrom_mem h.A.ok e (by rw [hate.e0]; exact List.mem_append_left _ he)).2.2) (fun e he => (okFrom_mem h.B.ok e (by rw [hate.e1]; exact List.mem_append_left _ he)).2.2)
 have htl := hate.t
 rw [hst, ← hf] at htl
 obtain ⟨t2, ht2⟩ : ∃ t2 : Nat, (t2 : Int) = c.t := ⟨c.t.toNat, by omega⟩
 obtain ⟨gA, ga⟩ := h.A.gap (f := f) (by omega) (by omega) s3
 obtain ⟨gB, gb⟩ := h.B.gap (f := f) (by omega) (by omega) s4
 have k0 : okFrom (t2 + 1) o.length l0' = true := by
  rw [ht2]
  exact okFrom_past (okFrom_suffix p0 (by rw [← hate.e0]; exact s3)) hate.s0
 have k1 : okFrom (t2 + 1) o.length l1' = true := by
  rw [ht2]
  exact okFrom_past (okFrom_suffix p1 (by rw [← hate.e1]; exact s4)) hate.s1
 obtain ⟨x2, ex2, lx, A2, na⟩ := Sync.take p0 (l := l0') (t := t2) (by rw [← hate.e0]; exact gA) (fun e he => by rw [ht2]; exact hate.n0 e he) (by omega) (by omega) (okFrom_le (by omega) k0)
 obtain ⟨y2, ey2, ly, B2, nb⟩ := Sync.take p1 (l := l1') (t := t2) (by rw [← hate.e1]; exact gB) (fun e he => by rw [ht2]; exact hate.n1 e he) (by omega) (by omega) (okFrom_le (by omega) k1)
 have hm0 := hate.m0
 have hm1 := hate.m1
 have hh0 := hate.h0
 have hh1 := hate.h1
 have hff := hate.f
 have z0 : (startC l0 l1).m0 = 0 := rfl
 have z1 : (startC l0 l1).m1 = 0 := rfl
 have z2 : (startC l0 l1).h0 = false := rfl
 have z3 : (startC l0 l1).h1 = false := rfl
 rw [z0] at hm0
 rw [z1] at hm1
 rw [z2, Bool.false_or] at hh0
 rw [z3, Bool.false_or] at hh1
 refine ⟨p0, p1, f, _, _, t2, x2, y2, ⟨hate, by rw [hff, hf], ht2.symm, by omega, by omega, hh0, hh1, by omega, by omega, rfl, rfl, ex2, ey2, lx, ly, ga, gb, na, nb, A2, B2, k0, k1, s3, s4, ?_, hlt⟩⟩
 have e0 := congrArg List.length hate.e0
 have e1 := congrArg List.length hate.e1
 rw [List.length_append] at e0 e1
 by_cases hp : p0 = []
 ·right
  intro hq
  rw [hp] at e0
  rw [hq] at e1
  simp at e0 e1
  omega
 ·exact .inl hp
theorem Rnd.gapped {o a b : List ByteArray} {s : Rs} {l0 l1 : List Ed} {t x y : Nat} {c : Cl} {l0' l1' p0 p1 : List Ed} {f x1 y1 t2 x2 y2 : Nat} (h : Inv o a b s l0 l1 t x y) (R : Rnd o a b s l0 l1 t x y c l0' l1' p0 p1 f x1 y1 t2 x2 y2) :
  (gapR s c).last.f1.f0 + (gapR s c).last.f1.f1 = (f : Int) ∧ (gapR s c).last.f2.f0 + (gapR s c).last.f2.f1 = (x1 : Int) ∧ (gapR s c).last.f3.f0 + (gapR s c).last.f3.f1 = (y1 : Int) ∧
  (0 ≤ (gapR s c).last.f1.f0 ∧ 0 ≤ (gapR s c).last.f1.f1) ∧ (0 ≤ (gapR s c).last.f2.f0 ∧ 0 ≤ (gapR s c).last.f2.f1) ∧ (0 ≤ (gapR s c).last.f3.f0 ∧ 0 ≤ (gapR s c).last.f3.f1) ∧
  (t < f → gapR s c = ⟨⟨0, ⟨(t : Int), ((f - t : Nat) : Int)⟩, ⟨(x : Int), ((f - t : Nat) : Int)⟩, ⟨(y : Int), ((f - t : Nat) : Int)⟩⟩, s.out ++ [⟨0, ⟨(t : Int), ((f - t : Nat) : Int)⟩, ⟨(x : Int), ((f - t : Nat) : Int)⟩, ⟨(y : Int), ((f - t : Nat) : Int)⟩⟩], s.at_⟩) ∧ (¬ t < f → gapR s c = s) := by
 have e1 := h.at_
 have e2 := R.cf
 have e3 := R.tf
 have e4 := R.ex1
 have e5 := R.ey1
 by_cases hg : t < f
 ·have e6 : (c.f - s.at_) = ((f - t : Nat) : Int) := by omega
  have hgap : gapR s c = ⟨⟨0, ⟨(t : Int), ((f - t : Nat) : Int)⟩, ⟨(x : Int), ((f - t : Nat) : Int)⟩, ⟨(y : Int), ((f - t : Nat) : Int)⟩⟩, s.out ++ [⟨0, ⟨(t : Int), ((f - t : Nat) : Int)⟩, ⟨(x : Int), ((f - t : Nat) : Int)⟩, ⟨(y : Int), ((f - t : Nat) : Int)⟩⟩], s.at_⟩ := by
   rw [gapR, if_pos (by omega), addR, h.so, h.sa, h.sb, e6, Int.add_zero]
  refine ⟨?_, ?_, ?_, ?_, ?_, ?_, fun _ => hgap, fun h => absurd hg h⟩ <;> rw [hgap] <;> simp only <;> omega
 ·have hgap : gapR s c = s := by rw [gapR, if_neg (by omega)]
  have h1 := h.so
  have h2 := h.sa
  have h3 := h.sb
  refine ⟨?_, ?_, ?_, ?_, ?_, ?_, fun h => absurd h hg, fun _ => hgap⟩ <;> rw [hgap]
  ·omega
  ·omega
  ·omega
  ·exact h.po
  ·exact h.pa
  ·exact h.pb
theorem Rnd.reg {o a b : List ByteArray} {s : Rs} {l0 l1 : List Ed} {t x y : Nat} {c : Cl} {l0' l1' p0 p1 : List Ed} {f x1 y1 t2 x2 y2 : Nat} (h : Inv o a b s l0 l1 t x y) (R : Rnd o a b s l0 l1 t x y c l0' l1' p0 p1 f x1 y1 t2 x2 y2) :
  addR (gapR s c).last (c.t - c.f) c.m0 c.m1 = ⟨0, ⟨(f : Int), ((t2 - f : Nat) : Int)⟩, ⟨(x1 : Int), ((x2 - x1 : Nat) : Int)⟩, ⟨(y1 : Int), ((y2 - y1 : Nat) : Int)⟩⟩ := by
 obtain ⟨g1, g2, g3, _⟩ := R.gapped h
 have e1 := R.cf
 have e2 := R.ct
 have e3 := R.m0
 have e4 := R.m1
 have e5 := R.ex2
 have e6 := R.ey2
 have e7 := R.lx
 have e8 := R.ly
 have e9 := R.ft
 rw [addR, g1, g2, g3, show c.t - c.f = ((t2 - f : Nat) : Int) by omega, show ((t2 - f : Nat) : Int) + c.m0 = ((x2 - x1 : Nat) : Int) by omega, show ((t2 - f : Nat) : Int) + c.m1 = ((y2 - y1 : Nat) : Int) by omega]
def regN (k : Int) (f t x1 x2 y1 y2 : Nat) : S32 := ⟨k, ⟨(f : Int), ((t - f : Nat) : Int)⟩, ⟨(x1 : Int), ((x2 - x1 : Nat) : Int)⟩, ⟨(y1 : Int), ((y2 - y1 : Nat) : Int)⟩⟩
theorem Rnd.step {o a b : List ByteArray} {s : Rs} {l0 l1 : List Ed} {t x y : Nat} {c : Cl} {l0' l1' p0 p1 : List Ed} {f x1 y1 t2 x2 y2 : Nat} (h : Inv o a b s l0 l1 t x y) (R : Rnd o a b s l0 l1 t x y c l0' l1' p0 p1 f x1 y1 t2 x2 y2) :
  stepR a b s c = ⟨regN 0 f t2 x1 x2 y1 y2, (gapR s c).out ++ [regN (kindP c ((a.drop x1).take (x2 - x1)) ((b.drop y1).take (y2 - y1))) f t2 x1 x2 y1 y2], (t2 : Int)⟩ := by
 simp only [stepR]
 rw [R.reg h, R.ct]
 simp only [cutP, Int.toNat_natCast, kinded, regN]
theorem Rnd.inv {o a b : List ByteArray} {s : Rs} {l0 l1 : List Ed} {t x y : Nat} {c : Cl} {l0' l1' p0 p1 : List Ed} {f x1 y1 t2 x2 y2 : Nat} (h : Inv o a b s l0 l1 t x y) (R : Rnd o a b s l0 l1 t x y c l0' l1' p0 p1 f x1 y1 t2 x2 y2) : Inv o a b (stepR a b s c) l0' l1' t2 x2 y2 := by
 rw [R.step h]
 have e7 := R.lx
 have e8 := R.ly
 have e9 := R.ft
 exact ⟨rfl, by simp only [regN]; omega, by simp only [regN]; omega, by simp only [regN]; omega, by simp only [regN]; omega, by simp only [regN]; omega, by simp only [regN]; omega, R.A2, R.B2⟩
theorem gap_len (s : Rs) (c : Cl) : (gapR s c).out.length ≤ s.out.length + 1 := by
 rw [gapR]
 split
 ·simp
 ·omega
theorem step_len (a b : List ByteArray) (s : Rs) (c : Cl) : (stepR a b s c).out.length ≤ s.out.length + 2 := by
 have := gap_len s c
 simp only [stepR, List.length_append, List.length_singleton]
 omega
theorem Inv.last_b {o a b : List ByteArray} {s : Rs} {l0 l1 : List Ed} {t x y : Nat} (h : Inv o a b s l0 l1 t x y) (ho : o.length ≤ 1048576) (ha : a.length ≤ 1048576) (hb : b.length ≤ 1048576) : S32B s.last := by
 have h1 := h.so
 have h2 := h.sa
 have h3 := h.sb
 have h4 := h.po
 have h5 := h.pa
 have h6 := h.pb
 have h7 := h.A.ht
 have h8 := h.A.hx
 have h9 := h.B.hx
 refine ⟨?_, ?_, ?_, ?_, ?_, ?_⟩ <;> unfold SpB <;> omega
theorem run_fit {o a b : List ByteArray} (ho : o.length ≤ 1048576) (ha : a.length ≤ 1048576) (hb : b.length ≤ 1048576) : ∀ (pre : List Cl) (c : Cl) (rest : List Cl) (s : Rs) (l0 l1 : List Ed) (t x y : Nat), Inv o a b s l0 l1 t x y → s.out.length + 2 * (l0.length + l1.length) ≤ 1099511627000 →
  clusters l0 l1 = pre ++ c :: rest → Fit a.length b.length (pre.foldl (stepR a b) s) c
 | [], c, rest, s, l0, l1, t, x, y, h, hn, hc => by
  have hl : 0 < l0.length + l1.length := by
   rcases Nat.eq_zero_or_pos (l0.length + l1.length) with h0 | h0
   ·rw [clusters_nil h0] at hc; cases hc
   ·exact h0
  obtain ⟨p0, p1, f, x1, y1, t2, x2, y2, R⟩ := h.round hl
  rw [clusters_cons hl, List.nil_append] at hc
  injection hc with hc _
  rw [hc] at R
  rw [List.foldl_nil]
  obtain ⟨g1, g2, g3, g4, g5, g6, _⟩ := R.gapped h
  have i1 := R.A2.ht
  have i2 := R.A2.hx
  have i3 := R.B2.hx
  have e1 := R.cf
  have e2 := R.ct
  have e3 := R.m0
  have e4 := R.m1
  have e5 := R.ex2
  have e6 := R.ey2
  have e7 := R.lx
  have e8 := R.ly
  have e9 := R.ft
  have e10 := h.at_
  have e11 := R.tf
  refine ⟨h.last_b ho ha hb, ?_, by unfold SmB; omega, by unfold SmB; omega, by unfold SmB; omega, by unfold SmB; omega, by unfold SmB; omega, ?_, ⟨x1, x2 - x1, ?_, by omega⟩, ⟨y1, y2 - y1, ?_, by omega⟩⟩
  ·refine ⟨?_, ?_, ?_, ?_, ?_, ?_⟩ <;> unfold SpB <;> omega
  ·show s.out.length ≤ _
   omega
  ·show (addR (gapR s c).last (c.t - c.f) c.m0 c.m1).f2 = _
   rw [R.reg h]
  ·show (addR (gapR s c).last (c.t - c.f) c.m0 c.m1).f3 = _
   rw [R.reg h]
 | c0 :: pre, c, rest, s, l0, l1, t, x, y, h, hn, hc => by
  have hl : 0 < l0.length + l1.length := by
   rcases Nat.eq_zero_or_pos (l0.length + l1.length) with h0 | h0
   ·rw [clusters_nil h0] at hc; cases hc
   ·exact h0
  obtain ⟨p0, p1, f, x1, y1, t2, x2, y2, R⟩ := h.round hl
  rw [clusters_cons hl, List.cons_append] at hc
  injection hc with hc hc2
  rw [hc] at R
  have h3 := step_len a b s c0
  have h4 := R.less
  exact run_fit ho ha hb pre c rest (stepR a b s c0) _ _ _ _ _ (R.inv h) (by omega) hc2
theorem run_end {o a b : List ByteArray} (ho : o.length ≤ 1048576) (ha : a.length ≤ 1048576) (hb : b.length ≤ 1048576) : ∀ (n : Nat) (s : Rs) (l0 l1 : List Ed) (t x y : Nat), l0.length + l1.length = n → Inv o a b s l0 l1 t x y → s.out.length + 2 * (l0.length + l1.length) ≤ 1099511627000 →
  FitE ((clusters l0 l1).foldl (stepR a b) s) ∧ ∃ t2 x2 y2, Inv o a b ((clusters l0 l1).foldl (stepR a b) s) [] [] t2 x2 y2 := by
 intro n
 induction n using Nat.strongRecOn with
 | _ n ih =>
  intro s l0 l1 t x y hn h hm
  rcases Nat.eq_zero_or_pos (l0.length + l1.length) with h0 | h0
  ·rw [clusters_nil h0, List.foldl_nil]
   have z0 : l0 = [] := List.length_eq_zero_iff.1 (by omega)
   have z1 : l1 = [] := List.length_eq_zero_iff.1 (by omega)
   subst z0 z1
   have h7 := h.A.ht
   have e := h.at_
   exact ⟨⟨h.last_b ho ha hb, by unfold SmB; omega, by simp at hm; exact hm⟩, t, x, y, h⟩
  ·obtain ⟨p0, p1, f, x1, y1, t2, x2, y2, R⟩ := h.round h0
   rw [clusters_cons h0, List.foldl_cons]
   have h3 := step_len a b s (absorb (startC l0 l1) l0 l1).1
   have h4 := R.less
   exact ih _ (by omega) _ _ _ _ _ _ rfl (R.inv h) (by omega)
theorem len_le_size' : ∀ (l : List Ed) (fr many : Int), okFrom fr many l = true → (l.length : Int) ≤ sizeE l ∧ ∀ e ∈ l, (e.f2.length : Int) ≤ sizeE l
 | [], fr, many, h => by simp [sizeE]
 | e :: l, fr, many, h => by
  obtain ⟨h1, h2, h3, h4, h5⟩ := okFrom_head h
  obtain ⟨i1, i2⟩ := len_le_size' l _ _ h5
  have hn := sizeE_nonneg l
  have hp : 1 ≤ e.f1 + (e.f2.length : Int) := by
   by_cases hz : e.f1 = 0
   ·have hne : e.f2 ≠ [] := fun hh => h4 ⟨hz, hh⟩
    have := List.length_pos_iff.2 hne
    omega
   ·omega
  refine ⟨by simp only [sizeE, List.length_cons]; omega, fun e' he' => ?_⟩
  simp only [sizeE]
  rcases List.mem_cons.1 he' with rfl | he'
  ·omega
  ·have := i2 e' he'
   omega
theorem inv_start (o a b : List ByteArray) : Inv o a b ⟨z32, [], 0⟩ (between o a) (between o b) 0 0 0 := by
 obtain ⟨k0, q0⟩ := between_ok o a
 obtain ⟨k1, q1⟩ := between_ok o b
 have w0 := playFrom_R o (between o a) 0 0 (by omega) k0
 have w1 := playFrom_R o (between o b) 0 0 (by omega) k1
 exact ⟨rfl, by decide, by decide, by decide, by decide, by decide, by decide, ⟨by omega, by omega, k0, by rw [← w0, List.drop_zero]; exact q0.symm⟩, ⟨by omega, by omega, k1, by rw [← w1, List.drop_zero]; exact q1.symm⟩⟩
theorem small_mul' {m n : Nat} (h : m ≤ 40) (h' : n ≤ 40) : m * n ≤ 65536 := Nat.le_trans (Nat.mul_le_mul h h') (by omega)
theorem between_b (o a : List ByteArray) (ho : o.length ≤ 40) (ha : a.length ≤ 40) : (∀ e ∈ between o a, EdOk e) ∧ (between o a).length ≤ 80 := by
 obtain ⟨k0, _⟩ := between_ok o a
 have hs := between_size o a (small_mul' ho ha)
 obtain ⟨i1, i2⟩ := len_le_size' _ _ _ k0
 refine ⟨fun e he => ?_, by omega⟩
 have h1 := okFrom_mem k0 e he
 have h2 := i2 e he
 exact ⟨by omega, by omega, by omega, by omega⟩
theorem regs_ok (o a b : List ByteArray) (ho : o.length ≤ 40) (ha : a.length ≤ 40) (hb : b.length ≤ 40) : RegsOk o a b := by
 obtain ⟨b0, n0⟩ := between_b o a ho ha
 obtain ⟨b1, n1⟩ := between_b o b ho hb
 have hi := inv_start o a b
 refine ⟨by omega, by omega, by omega, b0, b1, by omega, by omega, fun pre c rest hc => ?_, ?_⟩
 ·exact run_fit (by omega) (by omega) (by omega) pre c rest _ _ _ _ _ _ hi (by simp; omega) hc
 ·exact (run_end (by omega) (by omega) (by omega) _ _ _ _ _ _ _ rfl hi (by simp; omega)).1
def align_Regions.f (o a b : List ByteArray) : Option (List S32) := if o.length ≤ 40 ∧ a.length ≤ 40 ∧ b.length ≤ 40 then some (regionsP o a b) else none
theorem regions_some (o a b : List ByteArray) (ho : o.length ≤ 40) (ha : a.length ≤ 40) (hb : b.length ≤ 40) : align_Regions.f o a b = some (regionsP o a b) := by
 rw [align_Regions.f, if_pos ⟨ho, ha, hb⟩]
theorem align_Regions.calls (A0 : Option Addr) (c0 : Nat) (l0 : List ByteArray) (A1 : Option Addr) (c1 : Nat) (l1 : List ByteArray) (A2 : Option Addr) (c2 : Nat) (l2 : List ByteArray) (r : List S32) (w : World)
  (hr0 : Kd.C Kd.string w A0 l0.length l0) (hc0 : l0.length ≤ c0) (hr1 : Kd.C Kd.string w A1 l1.length l1) (hc1 : l1.length ≤ c1) (hr2 : Kd.C Kd.string w A2 l2.length l2) (hc2 : l2.length ≤ c2) (h : align_Regions.f l0 l1 l2 = some r) :
  Calls Try.prog 9 #[.slice A0 l0.length c0, .slice A1 l1.length c1, .slice A2 l2.length c2] w fun e w' => ∃ v0_ : Value, e = .returned (v0_) ∧ Kd.R k32 32 w' w.heap.size (fun _ => True) v0_ r ∧ Below w.heap.size w w' := by
 unfold align_Regions.f at h
 split at h
 ·rename_i hl
  refine align_Regions0.calls A0 c0 l0 A1 c1 l1 A2 c2 l2 r w hr0 hc0 hr1 hc1 hr2 hc2 ?_
  rw [align_Regions0.f, if_pos (regs_ok l0 l1 l2 hl.1 hl.2.1 hl.2.2)]
  exact h
 ·cases h
end Go.Proofs.Ytnmphfelebkaiaa.Pr
-- shrunk
-- written by a program of this session's (a turned copy of the kit's printer); Lean checks it
namespace Go.Proofs.Ytnmphfelebkaiaa.Pr
open Go.RowKit Go.Proofs.YtnmphfelebkaiaaW.PrintWords Go.Proofs.YtnmphfelebkaiaaW.PrintLast Go.Proofs.YtnmphfelebkaiaaW.PrintMore
attribute [local go_sem] max2_int min2_int max_two min_two max_three min_three max_four min_four   -- for this text's walks alone
set_option linter.unusedVariables false
set_option linter.unusedSimpArgs false

attribute [local go_sem high] eqA32


def align_lies.f (a0_0 : Int) (a0_1 : Int) (a1 : Int) (a2 : Int) : Option (Bool) := if a0_0 = a1 then (if a0_1 ≥ 0 then (some (decide (a0_1 ≤ (wrap64 (a2 - a1))))) else (some false)) else (some false)
set_option maxHeartbeats 8000000 in
set_option maxRecDepth 100000 in
theorem align_lies.calls (a0_0 : Int) (a0_1 : Int) (a1 : Int) (a2 : Int) (r : Bool) (w : World) (h : align_lies.f a0_0 a0_1 a1 a2 = some r) :
  Calls Try.prog 22 #[.agg #[.int .i64 a0_0, .int .i64 a0_1], .int .i64 a1, .int .i64 a2] w fun e w' => e = .returned (.bool r) ∧ Below w.heap.size w w' := by
 have hu30 := Try.underlying30
 have HB := Aside0.mk (Below.refl w.heap.size w)
 have H : (if a0_0 = a1 then (if a0_1 ≥ 0 then (some (decide (a0_1 ≤ (wrap64 (a2 - a1))))) else (some false)) else (some false)) = some r := h
 clear h
 by_cases c4 : a0_0 = a1
 ·rw [if_pos c4] at H
  have c4b0 : (a0_0 == a1) = true := beq_iff_eq.mpr c4
  have c4b1 : (a0_0 != a1) = false := bne_eq_false_iff_eq.mpr c4
  clear c4
  by_cases c5 : a0_1 ≥ 0
  ·rw [if_pos c5] at H
   have c5b0 : decide (0 ≤ a0_1) = true := decide_eq_true c5
   clear c5
   obtain rfl := Option.some.inj H
   go_enter Try.func22, Try.ntmps22
   go_wp2_with (first | ((with_reducible refine gate_dst (N := 3) rfl ?_); refine box_event ?hg (N := 3) ?hd (cs := #[.int .i64 a0_0, .int .i64 a0_1]) (t := 30) ?hr ?_; (case hd => rfl); (case hg => rfl); (case hr => first | (go_simp; done) | (go_simp; rfl)); intro gb108 hg w6 hbox hb; have n0_ := Aside0.mk (below_step (by repeat (first | (with_reducible first | exact HB.out | apply below_alloc | apply pw_below_drewN | apply below_drew1) | exact HB.out)) hb); have n1_ := Aside0.mk (hbox); have n2_ := Aside0.mk ((by rw [hg]; exact (below_size (by repeat (first | (with_reducible first | exact HB.out | apply below_alloc | apply pw_below_drewN | apply below_drew1) | exact HB.out))) : w.heap.size ≤ gb108)); have n3_ := Aside0.mk ((by rw [hg]; exact (below_size (by repeat (first | (with_reducible first | exact HB.out | apply below_alloc | apply pw_below_drewN | apply below_drew1) | exact HB.out))) : w.heap.size ≤ gb108)); clear HB; have HB := n0_; have BK108 := n1_; have GW108 := n2_; have GE108 := n3_; clear n0_ n1_ n2_ n3_; clear hb hbox hg; have hcz7_0 : w6.cell? ⟨gb108, 0, none⟩ = some (.int .i64 a0_0) := (blk_cell BK108.out 0).trans rfl; have hcz7_1 : w6.cell? ⟨gb108, 1, none⟩ = some (.int .i64 a0_1) := (blk_cell BK108.out 1).trans rfl; have hfz7_0 := blk_frozen BK108.out 0; have hfz7_1 := blk_frozen BK108.out 1))
   go_ret
   exact ⟨by first | rfl | (simp [errW_none, errW_some] <;> rfl) | (simp [*, errW_none, errW_some] <;> rfl), by repeat (first | (with_reducible first | exact HB.out | apply below_alloc | apply pw_below_drewN | apply below_drew1 | refine below_set ?_ GE108.out) | exact HB.out)⟩
  ·rw [if_neg c5] at H
   have c5b0 : decide (0 ≤ a0_1) = false := decide_eq_false c5
   clear c5
   obtain rfl := Option.some.inj H
   go_enter Try.func22, Try.ntmps22
   go_wp2_with (first | ((with_reducible refine gate_dst (N := 3) rfl ?_); refine box_event ?hg (N := 3) ?hd (cs := #[.int .i64 a0_0, .int .i64 a0_1]) (t := 30) ?hr ?_; (case hd => rfl); (case hg => rfl); (case hr => first | (go_simp; done) | (go_simp; rfl)); intro gb108 hg w8 hbox hb; have n0_ := Aside0.mk (below_step (by repeat (first | (with_reducible first | exact HB.out | apply below_alloc | apply pw_below_drewN | apply below_drew1) | exact HB.out)) hb); have n1_ := Aside0.mk (hbox); have n2_ := Aside0.mk ((by rw [hg]; exact (below_size (by repeat (first | (with_reducible first | exact HB.out | apply below_alloc | apply pw_below_drewN | apply below_drew1) | exact HB.out))) : w.heap.size ≤ gb108)); have n3_ := Aside0.mk ((by rw [hg]; exact (below_size (by repeat (first | (with_reducible first | exact HB.out | apply below_alloc | apply pw_below_drewN | apply below_drew1) | exact HB.out))) : w.heap.size ≤ gb108)); clear HB; have HB := n0_; have BK108 := n1_; have GW108 := n2_; have GE108 := n3_; clear n0_ n1_ n2_ n3_; clear hb hbox hg; have hcz9_0 : w8.cell? ⟨gb108, 0, none⟩ = some (.int .i64 a0_0) := (blk_cell BK108.out 0).trans rfl; have hcz9_1 : w8.cell? ⟨gb108, 1, none⟩ = some (.int .i64 a0_1) := (blk_cell BK108.out 1).trans rfl; have hfz9_0 := blk_frozen BK108.out 0; have hfz9_1 := blk_frozen BK108.out 1))
   go_ret
   exact ⟨by first | rfl | (simp [errW_none, errW_some] <;> rfl) | (simp [*, errW_none, errW_some] <;> rfl), by repeat (first | (with_reducible first | exact HB.out | apply below_alloc | apply pw_below_drewN | apply below_drew1 | refine below_set ?_ GE108.out) | exact HB.out)⟩
 ·rw [if_neg c4] at H
  have c4b0 : (a0_0 == a1) = false := beq_eq_false_iff_ne.mpr c4
  have c4b1 : (a0_0 != a1) = true := bne_iff_ne.mpr c4
  obtain rfl := Option.some.inj H
  go_enter Try.func22, Try.ntmps22
  go_wp2_with (first | ((with_reducible refine gate_dst (N := 3) rfl ?_); refine box_event ?hg (N := 3) ?hd (cs := #[.int .i64 a0_0, .int .i64 a0_1]) (t := 30) ?hr ?_; (case hd => rfl); (case hg => rfl); (case hr => first | (go_simp; done) | (go_simp; rfl)); intro gb108 hg w10 hbox hb; have n0_ := Aside0.mk (below_step (by repeat (first | (with_reducible first | exact HB.out | apply below_alloc | apply pw_below_drewN | apply below_drew1) | exact HB.out)) hb); have n1_ := Aside0.mk (hbox); have n2_ := Aside0.mk ((by rw [hg]; exact (below_size (by repeat (first | (with_reducible first | exact HB.out | apply below_alloc | apply pw_below_drewN | apply below_drew1) | exact HB.out))) : w.heap.size ≤ gb108)); have n3_ := Aside0.mk ((by rw [hg]; exact (below_size (by repeat (first | (with_reducible first | exact HB.out | apply below_alloc | apply pw_below_drewN | apply below_drew1) | exact HB.out))) : w.heap.size ≤ gb108)); clear HB; have HB := n0_; have BK108 := n1_; have GW108 := n2_; have GE108 := n3_; clear n0_ n1_ n2_ n3_; clear hb hbox hg; have hcz11_0 : w10.cell? ⟨gb108, 0, none⟩ = some (.int .i64 a0_0) := (blk_cell BK108.out 0).trans rfl; have hcz11_1 : w10.cell? ⟨gb108, 1, none⟩ = some (.int .i64 a0_1) := (blk_cell BK108.out 1).trans rfl; have hfz11_0 := blk_frozen BK108.out 0; have hfz11_1 := blk_frozen BK108.out 1))
  go_ret
  exact ⟨by first | rfl | (simp [errW_none, errW_some] <;> rfl) | (simp [*, errW_none, errW_some] <;> rfl), by repeat (first | (with_reducible first | exact HB.out | apply below_alloc | apply pw_below_drewN | apply below_drew1 | refine below_set ?_ GE108.out) | exact HB.out)⟩

end Go.Proofs.Ytnmphfelebkaiaa.Pr
-- shrunk
-- written by a program of this session's (a turned copy of the kit's printer); Lean checks it
namespace Go.Proofs.Ytnmphfelebkaiaa.Pr
open Go.RowKit Go.Proofs.YtnmphfelebkaiaaW.PrintWords Go.Proofs.YtnmphfelebkaiaaW.PrintLast Go.Proofs.YtnmphfelebkaiaaW.PrintMore
attribute [local go_sem] max2_int min2_int max_two min_two max_three min_three max_four min_four   -- for this text's walks alone
set_option linter.unusedVariables false
set_option linter.unusedSimpArgs false

attribute [local go_sem high] eqA32


def align_holds.f (k : Nat) (a0 : Int) (l1 : List ByteArray) (l2 : List ByteArray) (l3 : List ByteArray) : Option (Bool) := if a0 = 0 then ((slices_Equal_string_string.f k l1 l2).bind fun t109 => (if t109 = true then ((slices_Equal_string_string.f k l1 l3).bind fun t110 => (some t110)) else (some false))) else (if a0 = 1 then ((slices_Equal_string_string.f k l1 l3).bind fun t111 => (some t111)) else (if a0 = 2 then ((slices_Equal_string_string.f k l1 l2).bind fun t112 => (some t112)) else (if a0 = 3 then ((slices_Equal_string_string.f k l2 l3).bind fun t113 => (some t113)) else (some (a0 == 4)))))
theorem align_holds.mono : ∀ a0 a1 a2 a3 k, LeO (align_holds.f k a0 a1 a2 a3) (align_holds.f (k + 1) a0 a1 a2 a3) := by
 intro a0 a1 a2 a3 k
 unfold align_holds.f
 repeat' first
   | (with_reducible exact slices_Equal_string_string.mono _ _ _)
   | (with_reducible exact LeO.refl _)
   | (with_reducible exact LeO.none _)
   | (with_reducible refine LeO.ite ?_ ?_)
   | (with_reducible refine LeO.bind ?_ (fun _ => ?_))
   | exact slices_Equal_string_string.mono _ _ _
   | exact LeO.none _
   | refine LeO.ite ?_ ?_
   | refine LeO.bind ?_ (fun _ => ?_)
set_option maxHeartbeats 8000000 in
set_option maxRecDepth 100000 in
theorem align_holds.calls (k : Nat) (a0 : Int) (A1 : Option Addr) (c1 : Nat) (l1 : List ByteArray) (A2 : Option Addr) (c2 : Nat) (l2 : List ByteArray) (A3 : Option Addr) (c3 : Nat) (l3 : List ByteArray) (r : Bool) (w : World) (hr1 : Kd.C Kd.string w A1 l1.length l1) (hc1 : l1.length ≤ c1) (hr2 : Kd.C Kd.string w A2 l2.length l2) (hc2 : l2.length ≤ c2) (hr3 : Kd.C Kd.string w A3 l3.length l3) (hc3 : l3.length ≤ c3) (h : align_holds.f k a0 l1 l2 l3 = some r) :
  Calls Try.prog 23 #[.int .i64 a0, .slice A1 l1.length c1, .slice A2 l2.length c2, .slice A3 l3.length c3] w fun e w' => e = .returned (.bool r) ∧ Drawn0 w w' := by
 have HR1 := Aside0.mk hr1
 have HC1 := Aside0.mk hc1
 clear hr1 hc1
 have HR2 := Aside0.mk hr2
 have HC2 := Aside0.mk hc2
 clear hr2 hc2
 have HR3 := Aside0.mk hr3
 have HC3 := Aside0.mk hc3
 clear hr3 hc3
 have H : (if a0 = 0 then ((slices_Equal_string_string.f k l1 l2).bind fun t109 => (if t109 = true then ((slices_Equal_string_string.f k l1 l3).bind fun t110 => (some t110)) else (some false))) else (if a0 = 1 then ((slices_Equal_string_string.f k l1 l3).bind fun t111 => (some t111)) else (if a0 = 2 then ((slices_Equal_string_string.f k l1 l2).bind fun t112 => (some t112)) else (if a0 = 3 then ((slices_Equal_string_string.f k l2 l3).bind fun t113 => (some t113)) else (some (a0 == 4)))))) = some r := h
 clear h
 by_cases c5 : a0 = 0
 ·rw [if_pos c5] at H
  have c5b0 : (a0 == 0) = true := beq_iff_eq.mpr c5
  have c5b1 : (a0 != 0) = false := bne_eq_false_iff_eq.mpr c5
  clear c5
  replace H := Option.bind_eq_some_iff.mp H
  obtain ⟨t109, A60, H⟩ := H
  replace H : (if t109 = true then ((slices_Equal_string_string.f k l1 l3).bind fun t110 => (some t110)) else (some false)) = some r := H
  have A6 := Aside0.mk A60
  clear A60
  by_cases c7 : t109 = true
  ·subst c7
   have H1 : ((slices_Equal_string_string.f k l1 l3).bind fun t110 => (some t110)) = some r := by rw [if_pos rfl] at H; exact H
   clear H
   have H := H1
   clear H1
   replace H := Option.bind_eq_some_iff.mp H
   obtain ⟨t110, A80, H⟩ := H
   replace H : (some t110) = some r := H
   have A8 := Aside0.mk A80
   clear A80
   obtain rfl := Option.some.inj H
   go_enter Try.func23, Try.ntmps23
   go_wp2_with (first | ((with_reducible refine gate_callee (f := 33) rfl ?_); refine goesL_ (some 14) rfl rfl Try.func33 (by kernel_rfl) rfl #[.slice A1 l1.length c1, .slice A2 l2.length c2] rfl (by (try simp only [List.map_toArray, List.map_cons, List.map_nil]); first | done | rfl | (simp only [List.length_drop, List.length_take]; rfl)) ?_; (with_reducible refine (slices_Equal_string_string.calls k _ _ l1 _ _ l2 true _ ?side1 ?side2 ?side3 ?side4 A6.out).mono ?_); (case side1 => repeat (first | exact HR1.out | (with_reducible refine Kd.C_alloc ?_ _) | (with_reducible refine Kd.C_drewN ?_ _) | (with_reducible refine Kd.C_drew ?_))); (case side2 => exact HC1.out); (case side3 => repeat (first | exact HR2.out | (with_reducible refine Kd.C_alloc ?_ _) | (with_reducible refine Kd.C_drewN ?_ _) | (with_reducible refine Kd.C_drew ?_))); (case side4 => exact HC2.out); rintro e w' ⟨rfl, ⟨nd, rfl⟩⟩; refine ⟨_, rfl, ?_⟩) | (go_at_call 33; (with_reducible refine (slices_Equal_string_string.calls k _ _ l1 _ _ l3 t110 _ ?side1 ?side2 ?side3 ?side4 A8.out).mono ?_); (case side1 => repeat (first | exact HR1.out | (with_reducible refine Kd.C_alloc ?_ _) | (with_reducible refine Kd.C_drewN ?_ _) | (with_reducible refine Kd.C_drew ?_))); (case side2 => exact HC1.out); (case side3 => repeat (first | exact HR3.out | (with_reducible refine Kd.C_alloc ?_ _) | (with_reducible refine Kd.C_drewN ?_ _) | (with_reducible refine Kd.C_drew ?_))); (case side4 => exact HC3.out); rintro e w' ⟨rfl, ⟨nd, rfl⟩⟩))
   go_ret
   exact ⟨by first | rfl | (simp; done) | (simp [*]; done), by repeat (first | exact Drawn0.refl _ | apply Drawn0.step)⟩
  ·replace c7 := Bool.eq_false_iff.mpr c7
   subst c7
   have H1 : (some false) = some r := by rw [if_neg (show ¬ (false = true) by decide)] at H; exact H
   clear H
   have H := H1
   clear H1
   obtain rfl := Option.some.inj H
   go_enter Try.func23, Try.ntmps23
   go_wp2_with (first | ((with_reducible refine gate_callee (f := 33) rfl ?_); refine goesL_ (some 14) rfl rfl Try.func33 (by kernel_rfl) rfl #[.slice A1 l1.length c1, .slice A2 l2.length c2] rfl (by (try simp only [List.map_toArray, List.map_cons, List.map_nil]); first | done | rfl | (simp only [List.length_drop, List.length_take]; rfl)) ?_; (with_reducible refine (slices_Equal_string_string.calls k _ _ l1 _ _ l2 false _ ?side1 ?side2 ?side3 ?side4 A6.out).mono ?_); (case side1 => repeat (first | exact HR1.out | (with_reducible refine Kd.C_alloc ?_ _) | (with_reducible refine Kd.C_drewN ?_ _) | (with_reducible refine Kd.C_drew ?_))); (case side2 => exact HC1.out); (case side3 => repeat (first | exact HR2.out | (with_reducible refine Kd.C_alloc ?_ _) | (with_reducible refine Kd.C_drewN ?_ _) | (with_reducible refine Kd.C_drew ?_))); (case side4 => exact HC2.out); rintro e w' ⟨rfl, ⟨nd, rfl⟩⟩; refine ⟨_, rfl, ?_⟩))
   go_ret
   exact ⟨by first | rfl | (simp; done) | (simp [*]; done), by repeat (first | exact Drawn0.refl _ | apply Drawn0.step)⟩
 ·rw [if_neg c5] at H
  have c5b0 : (a0 == 0) = false := beq_eq_false_iff_ne.mpr c5
  have c5b1 : (a0 != 0) = true := bne_iff_ne.mpr c5
  by_cases c9 : a0 = 1
  ·rw [if_pos c9] at H
   have c9b0 : (a0 == 1) = true := beq_iff_eq.mpr c9
   have c9b1 : (a0 != 1) = false := bne_eq_false_iff_eq.mpr c9
   clear c9
   replace H := Option.bind_eq_some_iff.mp H
   obtain ⟨t111, A100, H⟩ := H
   replace H : (some t111) = some r := H
   have A10 := Aside0.mk A100
   clear A100
   obtain rfl := Option.some.inj H
   go_enter Try.func23, Try.ntmps23
   go_wp2_with (first | ((with_reducible refine gate_callee (f := 33) rfl ?_); refine goesL_ (some 24) rfl rfl Try.func33 (by kernel_rfl) rfl #[.slice A1 l1.length c1, .slice A3 l3.length c3] rfl (by (try simp only [List.map_toArray, List.map_cons, List.map_nil]); first | done | rfl | (simp only [List.length_drop, List.length_take]; rfl)) ?_; (with_reducible refine (slices_Equal_string_string.calls k _ _ l1 _ _ l3 t111 _ ?side1 ?side2 ?side3 ?side4 A10.out).mono ?_); (case side1 => repeat (first | exact HR1.out | (with_reducible refine Kd.C_alloc ?_ _) | (with_reducible refine Kd.C_drewN ?_ _) | (with_reducible refine Kd.C_drew ?_))); (case side2 => exact HC1.out); (case side3 => repeat (first | exact HR3.out | (with_reducible refine Kd.C_alloc ?_ _) | (with_reducible refine Kd.C_drewN ?_ _) | (with_reducible refine Kd.C_drew ?_))); (case side4 => exact HC3.out); rintro e w' ⟨rfl, ⟨nd, rfl⟩⟩; refine ⟨_, rfl, ?_⟩))
   go_ret
   exact ⟨by first | rfl | (simp; done) | (simp [*]; done), by repeat (first | exact Drawn0.refl _ | apply Drawn0.step)⟩
  ·rw [if_neg c9] at H
   have c9b0 : (a0 == 1) = false := beq_eq_false_iff_ne.mpr c9
   have c9b1 : (a0 != 1) = true := bne_iff_ne.mpr c9
   by_cases c11 : a0 = 2
   ·rw [if_pos c11] at H
    have c11b0 : (a0 == 2) = true := beq_iff_eq.mpr c11
    have c11b1 : (a0 != 2) = false := bne_eq_false_iff_eq.mpr c11
    clear c11
    replace H := Option.bind_eq_some_iff.mp H
    obtain ⟨t112, A120, H⟩ := H
    replace H : (some t112) = some r := H
    have A12 := Aside0.mk A120
    clear A120
    obtain rfl := Option.some.inj H
    go_enter Try.func23, Try.ntmps23
    go_wp2_with (first | ((with_reducible refine gate_callee (f := 33) rfl ?_); refine goesL_ (some 29) rfl rfl Try.func33 (by kernel_rfl) rfl #[.slice A1 l1.length c1, .slice A2 l2.length c2] rfl (by (try simp only [List.map_toArray, List.map_cons, List.map_nil]); first | done | rfl | (simp only [List.length_drop, List.length_take]; rfl)) ?_; (with_reducible refine (slices_Equal_string_string.calls k _ _ l1 _ _ l2 t112 _ ?side1 ?side2 ?side3 ?side4 A12.out).mono ?_); (case side1 => repeat (first | exact HR1.out | (with_reducible refine Kd.C_alloc ?_ _) | (with_reducible refine Kd.C_drewN ?_ _) | (with_reducible refine Kd.C_drew ?_))); (case side2 => exact HC1.out); (case side3 => repeat (first | exact HR2.out | (with_reducible refine Kd.C_alloc ?_ _) | (with_reducible refine Kd.C_drewN ?_ _) | (with_reducible refine Kd.C_drew ?_))); (case side4 => exact HC2.out); rintro e w' ⟨rfl, ⟨nd, rfl⟩⟩; refine ⟨_, rfl, ?_⟩))
    go_ret
    exact ⟨by first | rfl | (simp; done) | (simp [*]; done), by repeat (first | exact Drawn0.refl _ | apply Drawn0.step)⟩
   ·rw [if_neg c11] at H
    have c11b0 : (a0 == 2) = false := beq_eq_false_iff_ne.mpr c11
    have c11b1 : (a0 != 2) = true := bne_iff_ne.mpr c11
    by_cases c13 : a0 = 3
    ·rw [if_pos c13] at H
     have c13b0 : (a0 == 3) = true := beq_iff_eq.mpr c13
     have c13b1 : (a0 != 3) = false := bne_eq_false_iff_eq.mpr c13
     clear c13
     replace H := Option.bind_eq_some_iff.mp H
     obtain ⟨t113, A140, H⟩ := H
     replace H : (some t113) = some r := H
     have A14 := Aside0.mk A140
     clear A140
     obtain rfl := Option.some.inj H
     go_enter Try.func23, Try.ntmps23
     go_wp2_with (first | ((with_reducible refine gate_callee (f := 33) rfl ?_); refine goesL_ (some 34) rfl rfl Try.func33 (by kernel_rfl) rfl #[.slice A2 l2.length c2, .slice A3 l3.length c3] rfl (by (try simp only [List.map_toArray, List.map_cons, List.map_nil]); first | done | rfl | (simp only [List.length_drop, List.length_take]; rfl)) ?_; (with_reducible refine (slices_Equal_string_string.calls k _ _ l2 _ _ l3 t113 _ ?side1 ?side2 ?side3 ?side4 A14.out).mono ?_); (case side1 => repeat (first | exact HR2.out | (with_reducible refine Kd.C_alloc ?_ _) | (with_reducible refine Kd.C_drewN ?_ _) | (with_reducible refine Kd.C_drew ?_))); (case side2 => exact HC2.out); (case side3 => repeat (first | exact HR3.out | (with_reducible refine Kd.C_alloc ?_ _) | (with_reducible refine Kd.C_drewN ?_ _) | (with_reducible refine Kd.C_drew ?_))); (case side4 => exact HC3.out); rintro e w' ⟨rfl, ⟨nd, rfl⟩⟩; refine ⟨_, rfl, ?_⟩))
     go_ret
     exact ⟨by first | rfl | (simp; done) | (simp [*]; done), by repeat (first | exact Drawn0.refl _ | apply Drawn0.step)⟩
    ·rw [if_neg c13] at H
     have c13b0 : (a0 == 3) = false := beq_eq_false_iff_ne.mpr c13
     have c13b1 : (a0 != 3) = true := bne_iff_ne.mpr c13
     obtain rfl := Option.some.inj H
     go_enter Try.func23, Try.ntmps23
     go_wp2
     go_ret
     exact ⟨by first | rfl | (simp; done) | (simp [*]; done), by repeat (first | exact Drawn0.refl _ | apply Drawn0.step)⟩


end Go.Proofs.Ytnmphfelebkaiaa.Pr
-- shrunk
