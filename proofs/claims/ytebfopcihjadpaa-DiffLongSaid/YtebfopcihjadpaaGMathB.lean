/-
What is between two lists with a front and an end that both have: plain facts on lists.
-/
import Derived.Test.YtebfopcihjadpaaGMathE
namespace Go.Proofs.Ytebfopcihjadpaa.Pr
set_option linter.unusedVariables false
set_option linter.unusedSimpArgs false
theorem common_append : ∀ (F x y : List ByteArray), common (F ++ x) (F ++ y) = F.length + common x y
  | [], x, y => by simp
  | f :: F, x, y => by rw [List.cons_append, List.cons_append, common, if_pos rfl, common_append F x y, List.length_cons]; omega
theorem common_ne {x y : ByteArray} (h : x ≠ y) (xs ys : List ByteArray) : common (x :: xs) (y :: ys) = 0 := by rw [common, if_neg h]
theorem common_nil_right (x : List ByteArray) : common x [] = 0 := by cases x <;> simp [common]
theorem common_nil_left (x : List ByteArray) : common [] x = 0 := by simp [common]
theorem between_eq (F x y E : List ByteArray) (h1 : common (x ++ E) (y ++ E) = 0) (h2 : common x.reverse y.reverse = 0) : between (F ++ (x ++ E)) (F ++ (y ++ E)) = midEdits (F.length : Int) x y := by
  have e1 : common (F ++ (x ++ E)) (F ++ (y ++ E)) = F.length := by rw [common_append, h1]; rfl
  have e2 : common (x ++ E).reverse (y ++ E).reverse = E.length := by rw [List.reverse_append, List.reverse_append, common_append, h2, List.length_reverse]; rfl
  rw [between, midOf, endOf, frontOf, e1, List.drop_left, List.drop_left, e2, List.length_append, List.length_append, Nat.add_sub_cancel, Nat.add_sub_cancel, List.take_left, List.take_left]
/-- Two lists as a front and an end that both have, and what lies between: with nothing more in common. -/
theorem between_parts (a b : List ByteArray) : ∃ F x y E, a = F ++ (x ++ E) ∧ b = F ++ (y ++ E) ∧ common (x ++ E) (y ++ E) = 0 ∧ common x.reverse y.reverse = 0 := by
  have key : ∀ a b : List ByteArray, ∃ F x y, a = F ++ x ∧ b = F ++ y ∧ common x y = 0 := by
    intro a
    induction a with
    | nil => exact fun b => ⟨[], [], b, rfl, rfl, common_nil_left b⟩
    | cons p a ih =>
      intro b
      cases b with
      | nil => exact ⟨[], p :: a, [], rfl, rfl, common_nil_right _⟩
      | cons q b =>
        by_cases h : p = q
        · obtain ⟨F, x, y, h1, h2, h3⟩ := ih b
          exact ⟨p :: F, x, y, by rw [h1]; rfl, by rw [h2, h]; rfl, h3⟩
        · exact ⟨[], p :: a, q :: b, rfl, rfl, common_ne h _ _⟩
  obtain ⟨F, x, y, rfl, rfl, h3⟩ := key a b
  obtain ⟨E, u, v, h4, h5, h6⟩ := key x.reverse y.reverse
  have hx : x = u.reverse ++ E.reverse := by rw [← List.reverse_append, ← h4, List.reverse_reverse]
  have hy : y = v.reverse ++ E.reverse := by rw [← List.reverse_append, ← h5, List.reverse_reverse]
  exact ⟨F, u.reverse, v.reverse, E.reverse, by rw [hx], by rw [hy], by rw [← hx, ← hy]; exact h3, by rw [List.reverse_reverse, List.reverse_reverse]; exact h6⟩
theorem mid_shift (d t : Int) (x y : List ByteArray) : midEdits (t + d) x y = (midEdits t x y).map (shE d) := by
  rw [midEdits, midEdits]
  by_cases c1 : x = [] ∧ y = []
  · rw [if_pos c1, if_pos c1]; rfl
  · rw [if_neg c1, if_neg c1]
    by_cases c2 : x = [] ∨ y = [] ∨ 65536 < x.length * y.length
    · rw [if_pos c2, if_pos c2]; rfl
    · rw [if_neg c2, if_neg c2, (edits_edG _ _ []).1, (edits_edG _ _ []).1, List.nil_append, List.nil_append]
      exact (edG_shift d _ t).1
/-- WHAT BOTH HAVE IN FRONT, AND BEHIND, CHANGES NOTHING. -/
theorem between_around (P G a b : List ByteArray) (o : ByteArray) (hG : ∀ g ∈ G, g = o) (ha : o ∉ a) (hb : o ∉ b) : between (P ++ (a ++ G)) (P ++ (b ++ G)) = (between a b).map (shE (P.length : Int)) := by
  by_cases hab : a = b
  · rw [hab, between_self, between_self]; rfl
  obtain ⟨F, x, y, E, rfl, rfl, h1, h2⟩ := between_parts a b
  rw [between_eq F x y E h1 h2, ← mid_shift]
  have e1 : ∀ z : List ByteArray, P ++ (F ++ (z ++ E) ++ G) = (P ++ F) ++ (z ++ (E ++ G)) := fun z => by simp [List.append_assoc]
  rw [e1, e1]
  have hne : ¬ (x ++ E = [] ∧ y ++ E = []) := fun h => hab (by rw [h.1, h.2])
  have h3 : common (x ++ (E ++ G)) (y ++ (E ++ G)) = 0 := by
    rw [← List.append_assoc, ← List.append_assoc]
    have hxo : ∀ p ∈ x ++ E, p ≠ o := fun p hp e => ha (by rw [← e]; exact List.mem_append_right F hp)
    have hyo : ∀ p ∈ y ++ E, p ≠ o := fun p hp e => hb (by rw [← e]; exact List.mem_append_right F hp)
    generalize x ++ E = u at h1 hne hxo ⊢
    generalize y ++ E = v at h1 hne hyo ⊢
    cases u with
    | nil =>
      cases v with
      | nil => exact absurd ⟨rfl, rfl⟩ hne
      | cons q v =>
        cases G with
        | nil => exact common_nil_left _
        | cons g G => exact common_ne (fun e => hyo q (by simp) (by rw [← e]; exact hG g (by simp))) _ _
    | cons p u =>
      cases v with
      | nil =>
        cases G with
        | nil => exact common_nil_right _
        | cons g G => exact common_ne (fun e => hxo p (by simp) (by rw [e]; exact hG g (by simp))) _ _
      | cons q v =>
        have hpq : p ≠ q := fun e => by rw [common, if_pos e] at h1; omega
        exact common_ne hpq _ _
  rw [between_eq (P ++ F) x y (E ++ G) h3 h2, List.length_append]
  congr 1
  push_cast
  omega
end Go.Proofs.Ytebfopcihjadpaa.Pr
