/-
A text's lines, as plain functions on lists of bytes.
-/
import Derived.Test.YtplclofakoffmaaGEach
namespace Go.Proofs.Ytplclofakoffmaa.Pr
open Go.RowKit Go.Proofs.YtplclofakoffmaaW.PrintWords Go.Proofs.YtplclofakoffmaaW.PrintLast Go.Proofs.YtplclofakoffmaaW.PrintMore
set_option linter.unusedVariables false
set_option linter.unusedSimpArgs false
def glue (cur : List UInt8) : List (List UInt8) → List (List UInt8)
  | [] => [cur]
  | x :: xs => (cur ++ x) :: xs
/-- A text's lines. -/
def lns : List UInt8 → List (List UInt8)
  | [] => []
  | b :: l => if b = 10 then [b] :: lns l else glue [b] (lns l)
/-- Has its last line its end? -/
def closedL (l : List UInt8) : Bool := decide (l = []) || l.getLast? == some 10
theorem lns_nl (l : List UInt8) : lns (10 :: l) = [10] :: lns l := by simp [lns]
theorem lns_no {b : UInt8} (h : b ≠ 10) (l : List UInt8) : lns (b :: l) = glue [b] (lns l) := by simp [lns, h]
theorem glue_glue (a b : List UInt8) (xs : List (List UInt8)) : glue a (glue b xs) = glue (a ++ b) xs := by cases xs <;> simp [glue]
theorem glue_append (c : List UInt8) (x : List (List UInt8)) (y : List (List UInt8)) (h : x ≠ []) : glue c (x ++ y) = glue c x ++ y := by
  cases x with
  | nil => exact absurd rfl h
  | cons => simp [glue]
theorem glue_ne (c : List UInt8) (x : List (List UInt8)) : glue c x ≠ [] := by cases x <;> simp [glue]
theorem lns_eq_nil (l : List UInt8) : lns l = [] ↔ l = [] := by
  cases l with
  | nil => simp [lns]
  | cons b l =>
    by_cases h : b = 10
    · subst h; simp [lns_nl]
    · simp [lns_no h, glue_ne]
theorem lns_flatten (l : List UInt8) : (lns l).flatten = l := by
  induction l with
  | nil => rfl
  | cons b l ih =>
    by_cases h : b = 10
    · subst h; rw [lns_nl, List.flatten_cons, ih]; rfl
    · rw [lns_no h]
      cases hl : lns l with
      | nil => rw [hl] at ih; simp at ih; simp [glue, ← ih]
      | cons x xs => rw [hl] at ih; simp [glue, ← ih]
theorem closedL_cons (b c : UInt8) (l : List UInt8) : closedL (b :: c :: l) = closedL (c :: l) := by simp [closedL]
theorem lns_append (a b : List UInt8) (h : closedL a = true) : lns (a ++ b) = lns a ++ lns b := by
  induction a with
  | nil => rfl
  | cons c a ih =>
    rcases a with _ | ⟨d, a⟩
    · have hc : c = 10 := by simpa [closedL] using h
      subst hc; simp [lns]
    · have h1 := ih (by rwa [closedL_cons] at h)
      by_cases hc : c = 10
      · subst hc; rw [List.cons_append, lns_nl, h1, lns_nl, List.cons_append]
      · rw [List.cons_append, lns_no hc, h1, glue_append _ _ _ (by rw [Ne, lns_eq_nil]; simp), lns_no hc]
theorem lns_ne (l : List UInt8) : ∀ x ∈ lns l, x ≠ [] := by
  induction l with
  | nil => simp [lns]
  | cons b l ih =>
    by_cases h : b = 10
    · subst h; rw [lns_nl]; intro x hx; rcases List.mem_cons.1 hx with rfl | hx
      · simp
      · exact ih x hx
    · rw [lns_no h]
      cases hl : lns l with
      | nil => simp [glue]
      | cons y ys =>
        rw [hl] at ih
        intro x hx
        rcases List.mem_cons.1 hx with rfl | hx
        · simp
        · exact ih x (List.mem_cons_of_mem _ hx)
theorem lns_len (l : List UInt8) : (lns l).length = l.count 10 + if closedL l = true then 0 else 1 := by
  induction l with
  | nil => simp [lns, closedL]
  | cons b l ih =>
    by_cases h : b = 10
    · subst h
      rw [lns_nl, List.length_cons, ih, List.count_cons]
      rcases l with _ | ⟨c, l⟩
      · simp [closedL]
      · rw [closedL_cons]; simp; omega
    · rw [lns_no h, List.count_cons]
      have hb : (b == 10) = false := by simpa using h
      rw [hb]
      rcases l with _ | ⟨c, l⟩
      · simp [lns, glue, closedL, h]
      · rw [closedL_cons]
        cases hl : lns (c :: l) with
        | nil => exact absurd ((lns_eq_nil _).1 hl) (by simp)
        | cons y ys => rw [hl] at ih; simp [glue] at ih ⊢; omega
/-- No byte of a line but its last one is its end. -/
def midL (l : List UInt8) : Prop := ∀ b ∈ l.dropLast, b ≠ 10
theorem midL_cons {b : UInt8} (h : b ≠ 10) {x : List UInt8} (hx : midL x) : midL (b :: x) := by
  rcases x with _ | ⟨c, x⟩
  · intro d hd; simp at hd
  · intro d hd
    rw [List.dropLast_cons_cons] at hd
    rcases List.mem_cons.1 hd with rfl | hd
    · exact h
    · exact hx d hd
/-- Are they a text's lines? -/
def rightL : List (List UInt8) → Prop
  | [] => True
  | x :: xs => x ≠ [] ∧ midL x ∧ (xs ≠ [] → x.getLast? = some 10) ∧ rightL xs
theorem rightL_lns (l : List UInt8) : rightL (lns l) := by
  induction l with
  | nil => trivial
  | cons b l ih =>
    by_cases h : b = 10
    · subst h; rw [lns_nl]
      exact ⟨by simp, by intro d hd; simp at hd, fun _ => rfl, ih⟩
    · rw [lns_no h]
      cases hl : lns l with
      | nil => exact ⟨by simp, by intro d hd; simp at hd, fun h => absurd rfl h, trivial⟩
      | cons y ys =>
        rw [hl] at ih
        obtain ⟨h1, h2, h3, h4⟩ := ih
        refine ⟨by simp, midL_cons h h2, fun hne => ?_, h4⟩
        rcases y with _ | ⟨c, y⟩
        · exact absurd rfl h1
        · have := h3 hne
          simpa using this
theorem lns_mid (x : List UInt8) (h0 : x ≠ []) (h : midL x) (l : List UInt8) (hl : l ≠ [] → x.getLast? = some 10) : lns (x ++ l) = x :: lns l := by
  induction x with
  | nil => exact absurd rfl h0
  | cons b x ih =>
    rcases x with _ | ⟨c, x⟩
    · by_cases hn : l = []
      · subst hn
        by_cases hb : b = 10
        · subst hb; rfl
        · simp [lns, hb, glue]
      · have hb : b = 10 := by simpa using hl hn
        subst hb; simp [lns]
    · have hb : b ≠ 10 := h b (by simp)
      have h2 := ih (by simp) (fun d hd => h d (by rw [List.dropLast_cons_cons]; exact List.mem_cons_of_mem _ hd)) (fun hn => by simpa using hl hn)
      rw [List.cons_append, lns_no hb, h2]; rfl
theorem lns_right (ls : List (List UInt8)) (h : rightL ls) : lns ls.flatten = ls := by
  induction ls with
  | nil => rfl
  | cons x xs ih =>
    obtain ⟨h1, h2, h3, h4⟩ := h
    rw [List.flatten_cons, lns_mid x h1 h2 _ (fun hn => h3 (fun e => hn (by rw [e]; rfl))), ih h4]
theorem lns_iff (ls : List (List UInt8)) : ls = lns ls.flatten ↔ rightL ls :=
  ⟨fun h => by rw [h]; exact rightL_lns _, fun h => (lns_right ls h).symm⟩
/-! ### with bytes -/
def bs (l : List UInt8) : ByteArray := ⟨l.toArray⟩
theorem bs_data (s : ByteArray) : bs s.data.toList = s := rfl
theorem data_bs (l : List UInt8) : (bs l).data.toList = l := rfl
theorem bs_inj {a b : List UInt8} (h : bs a = bs b) : a = b := by have := congrArg (fun s => s.data.toList) h; simpa [bs] using this
def cutL : List UInt8 → Nat
  | [] => 0
  | b :: l => if b = 10 then 1 else cutL l + 1
theorem cutL_le (l : List UInt8) : cutL l ≤ l.length := by
  induction l with
  | nil => simp [cutL]
  | cons b l ih => simp only [cutL, List.length_cons]; split <;> omega
theorem cutL_index (l : List UInt8) : (Lib.indexByte l 10 = -1 → cutL l = l.length) ∧ (Lib.indexByte l 10 ≠ -1 → (cutL l : Int) = Lib.indexByte l 10 + 1) := by
  induction l with
  | nil => simp [Lib.indexByte, cutL]
  | cons b l ih =>
    unfold Lib.indexByte cutL
    by_cases h : b = 10
    · subst h; simp
    · have hb : (b == 10) = false := by simpa using h
      rw [hb]
      simp only [Bool.false_eq_true, if_false, if_neg h]
      have := indexByte_lt l 10
      by_cases h2 : Lib.indexByte l 10 = -1
      · have h3 := ih.1 h2
        simp [h2, h3]
      · have h3 := ih.2 h2
        have h4 : (Lib.indexByte l 10 == -1) = false := by simpa using h2
        rw [h4]
        simp only [Bool.false_eq_true, if_false]
        exact ⟨fun h => by omega, fun _ => by omega⟩
theorem cutAt_eq (s : ByteArray) : cutAt s = cutL s.data.toList := by
  have h := cutL_index s.data.toList
  have h2 := indexByte_lt s.data.toList 10
  have h3 : s.data.toList.length = s.size := rfl
  unfold cutAt
  by_cases h1 : Lib.indexByte s.data.toList 10 = -1
  · rw [if_pos (by omega), h.1 h1, h3]
  · rw [if_neg (by omega)]
    have := h.2 h1
    omega
theorem lns_cut (l : List UInt8) (h : l ≠ []) : lns l = l.take (cutL l) :: lns (l.drop (cutL l)) := by
  induction l with
  | nil => exact absurd rfl h
  | cons b l ih =>
    by_cases hb : b = 10
    · subst hb; rw [lns_nl]; simp [cutL]
    · rw [lns_no hb]
      simp only [cutL, if_neg hb, List.take_succ_cons, List.drop_succ_cons]
      by_cases hl : l = []
      · subst hl; rfl
      · rw [ih hl]; rfl
theorem linesB_lns (s : ByteArray) : linesB s = (lns s.data.toList).map bs := by
  generalize hn : s.size = n
  induction n using Nat.strongRecOn generalizing s with
  | _ n ih =>
    by_cases h : s.size = 0
    · rw [linesB_nil s h, ByteArray.size_eq_zero_iff.1 h]; rfl
    · have hp := cutAt_pos s (by omega)
      have hne : s.data.toList ≠ [] := fun e => h (congrArg List.length e)
      rw [linesB_cons s h, lns_cut _ hne, List.map_cons, ih (s.extract (cutAt s) s.size).size (by rw [ByteArray.size_extract, Nat.min_self]; omega) _ rfl, ← cutAt_eq]
      have h3 : s.data.toList.length = s.size := rfl
      congr 1
      · apply ByteArray.ext
        apply Array.toList_inj.1
        simp [bs, ByteArray.data_extract]
      · congr 2
        simp [ByteArray.data_extract, List.take_of_length_le, h3]
end Go.Proofs.Ytplclofakoffmaa.Pr
