/-
Longest common subsequences: what their lengths satisfy. Plain facts on lists.
-/
import Derived.Test.YtebfopcihjadpaaGMathE
namespace Go.Proofs.Ytebfopcihjadpaa.Pr
set_option linter.unusedVariables false
set_option linter.unusedSimpArgs false
open List (Sublist)
/-- There is a common subsequence of that length. -/
theorem lcs_has : ∀ x y : List ByteArray, ∃ s : List ByteArray, s.Sublist x ∧ s.Sublist y ∧ s.length = lcsLen x y
  | [], y => ⟨[], List.nil_sublist _, List.nil_sublist _, by simp [lcsLen]⟩
  | x :: xs, [] => ⟨[], List.nil_sublist _, List.nil_sublist _, by simp [lcsLen]⟩
  | x :: xs, y :: ys => by
    rw [lcsLen]
    by_cases h : x = y
    · obtain ⟨s, h1, h2, h3⟩ := lcs_has xs ys
      rw [if_pos h]
      exact ⟨x :: s, h1.cons_cons x, by rw [h]; exact h2.cons_cons y, by simp [h3]⟩
    · rw [if_neg h]
      rcases Nat.le_total (lcsLen (x :: xs) ys) (lcsLen xs (y :: ys)) with hl | hl
      · obtain ⟨s, h1, h2, h3⟩ := lcs_has xs (y :: ys)
        exact ⟨s, h1.cons x, h2, by rw [h3]; omega⟩
      · obtain ⟨s, h1, h2, h3⟩ := lcs_has (x :: xs) ys
        exact ⟨s, h1, h2.cons y, by rw [h3]; omega⟩
termination_by x y => x.length + y.length
/-- No common subsequence is longer. -/
theorem lcs_most : ∀ (x y s : List ByteArray), s.Sublist x → s.Sublist y → s.length ≤ lcsLen x y
  | [], y, s, h1, h2 => by rw [List.sublist_nil.1 h1]; simp
  | x :: xs, [], s, h1, h2 => by rw [List.sublist_nil.1 h2]; simp
  | x :: xs, y :: ys, s, h1, h2 => by
    rw [lcsLen]
    by_cases h : x = y
    · rw [if_pos h]
      match s with
      | [] => simp
      | z :: s' =>
        have g1 : s'.Sublist xs := by
          have := List.Sublist.tail h1
          simpa using this
        have g2 : s'.Sublist ys := by
          have := List.Sublist.tail h2
          simpa using this
        have := lcs_most xs ys s' g1 g2
        simp only [List.length_cons]
        omega
    · rw [if_neg h]
      cases h1 with
      | cons _ g1 =>
        have := lcs_most xs (y :: ys) s g1 h2
        omega
      | cons_cons _ g1 =>
        cases h2 with
        | cons _ g2 =>
          have := lcs_most (x :: xs) ys _ (g1.cons_cons x) g2
          omega
        | cons_cons _ g2 => exact absurd rfl h
termination_by x y => x.length + y.length
theorem lcs_unique {x y : List ByteArray} {n : Nat} (h1 : ∃ s : List ByteArray, s.Sublist x ∧ s.Sublist y ∧ s.length = n) (h2 : ∀ s : List ByteArray, s.Sublist x → s.Sublist y → s.length ≤ n) : lcsLen x y = n := by
  obtain ⟨s, a1, a2, a3⟩ := h1
  obtain ⟨t, b1, b2, b3⟩ := lcs_has x y
  have := lcs_most x y s a1 a2
  have := h2 t b1 b2
  omega
theorem lcs_comm (x y : List ByteArray) : lcsLen x y = lcsLen y x := by
  obtain ⟨t, b1, b2, b3⟩ := lcs_has y x
  exact lcs_unique ⟨t, b2, b1, b3⟩ (fun s h1 h2 => lcs_most y x s h2 h1)
theorem lcs_reverse (x y : List ByteArray) : lcsLen x.reverse y.reverse = lcsLen x y := by
  obtain ⟨t, b1, b2, b3⟩ := lcs_has x y
  refine lcs_unique ⟨t.reverse, b1.reverse, b2.reverse, by simpa using b3⟩ (fun s h1 h2 => ?_)
  have := lcs_most x y s.reverse (by have := h1.reverse; simpa using this) (by have := h2.reverse; simpa using this)
  simpa using this
theorem lcs_front : ∀ (F x y : List ByteArray), lcsLen (F ++ x) (F ++ y) = F.length + lcsLen x y
  | [], x, y => by simp
  | f :: F, x, y => by rw [List.cons_append, List.cons_append, lcsLen, if_pos rfl, lcs_front F x y, List.length_cons]; omega
theorem lcs_end (x y E : List ByteArray) : lcsLen (x ++ E) (y ++ E) = lcsLen x y + E.length := by
  rw [← lcs_reverse, List.reverse_append, List.reverse_append, lcs_front, lcs_reverse, List.length_reverse]; omega
/-- What two subsequences of one list have in common. -/
theorem sub_meet : ∀ (b s u : List ByteArray), s.Sublist b → u.Sublist b → ∃ v : List ByteArray, v.Sublist s ∧ v.Sublist u ∧ s.length + u.length ≤ b.length + v.length
  | [], s, u, h1, h2 => ⟨[], List.nil_sublist _, List.nil_sublist _, by rw [List.sublist_nil.1 h1, List.sublist_nil.1 h2]; simp⟩
  | b :: bs, s, u, h1, h2 => by
    cases h1 with
    | cons _ g1 =>
      cases h2 with
      | cons _ g2 =>
        obtain ⟨v, a1, a2, a3⟩ := sub_meet bs s u g1 g2
        exact ⟨v, a1, a2, by simp only [List.length_cons]; omega⟩
      | cons_cons _ g2 =>
        obtain ⟨v, a1, a2, a3⟩ := sub_meet bs s _ g1 g2
        exact ⟨v, a1, a2.cons b, by simp only [List.length_cons]; omega⟩
    | cons_cons _ g1 =>
      cases h2 with
      | cons _ g2 =>
        obtain ⟨v, a1, a2, a3⟩ := sub_meet bs _ u g1 g2
        exact ⟨v, a1.cons b, a2, by simp only [List.length_cons]; omega⟩
      | cons_cons _ g2 =>
        obtain ⟨v, a1, a2, a3⟩ := sub_meet bs _ _ g1 g2
        exact ⟨b :: v, a1.cons_cons b, a2.cons_cons b, by simp only [List.length_cons]; omega⟩
theorem lcs_chain (a b c : List ByteArray) : lcsLen a b + lcsLen b c ≤ b.length + lcsLen a c := by
  obtain ⟨s, a1, a2, a3⟩ := lcs_has a b
  obtain ⟨u, b1, b2, b3⟩ := lcs_has b c
  obtain ⟨v, c1, c2, c3⟩ := sub_meet b s u a2 b1
  have := lcs_most a c v (c1.trans a1) (c2.trans b2)
  omega
theorem lcs_le (a b : List ByteArray) : lcsLen a b ≤ a.length ∧ lcsLen a b ≤ b.length := by
  obtain ⟨s, a1, a2, a3⟩ := lcs_has a b
  rw [← a3]
  exact ⟨a1.length_le, a2.length_le⟩
/-- A common subsequence, from the ends. -/
theorem lcs_snoc (x y : List ByteArray) (e f : ByteArray) : lcsLen (x ++ [e]) (y ++ [f]) = if e = f then lcsLen x y + 1 else max (lcsLen x (y ++ [f])) (lcsLen (x ++ [e]) y) := by
  rw [← lcs_reverse, List.reverse_append, List.reverse_append]
  show lcsLen (e :: x.reverse) (f :: y.reverse) = _
  rw [lcsLen, lcs_reverse]
  rw [show f :: y.reverse = (y ++ [f]).reverse by simp, show e :: x.reverse = (x ++ [e]).reverse by simp, lcs_reverse, lcs_reverse]
/-- The size of what is between two lists that are small enough. -/
theorem between_size (a b : List ByteArray) (h : a.length * b.length ≤ 65536) : sizeE (between a b) + 2 * (lcsLen a b : Int) = a.length + b.length := by
  obtain ⟨F, x, y, E, rfl, rfl, e⟩ := between_split a b
  rw [e, lcs_front, lcs_end, midEdits]
  have hxy : x.length * y.length ≤ 65536 := Nat.le_trans (Nat.mul_le_mul (by simp only [List.length_append]; omega) (by simp only [List.length_append]; omega)) h
  simp only [List.length_append]
  by_cases c1 : x = [] ∧ y = []
  · rw [if_pos c1, c1.1, c1.2]
    simp [sizeE, lcsLen]
    omega
  · rw [if_neg c1]
    by_cases c2 : x = [] ∨ y = [] ∨ 65536 < x.length * y.length
    · rw [if_pos c2]
      have h0 : lcsLen x y = 0 := by
        rcases c2 with c | c | c
        · rw [c, nil_lcs]
        · rw [c, lcs_nil]
        · omega
      rw [h0]
      simp only [sizeE]
      push_cast
      omega
    · rw [if_neg c2, (edits_edG _ _ []).1, List.nil_append, (size_edG _ _).1]
      have := steps_chg x y
      push_cast
      omega
end Go.Proofs.Ytebfopcihjadpaa.Pr
