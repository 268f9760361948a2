/-
The table of diff.walk holds the lengths of the longest common subsequences of all ends.
-/
import Derived.Test.YtlabiajcohmjhaaGWalk
import Derived.Test.YtlabiajcohmjhaaGSpecA
namespace Go.Proofs.Ytlabiajcohmjhaa.Pr
open Go.RowKit Go.Proofs.YtlabiajcohmjhaaW.PrintWords Go.Proofs.YtlabiajcohmjhaaW.PrintLast Go.Proofs.YtlabiajcohmjhaaW.PrintMore
set_option linter.unusedVariables false
set_option linter.unusedSimpArgs false
theorem lcsLen_nil (x : List ByteArray) : lcsLen x [] = 0 := by cases x <;> simp [lcsLen]
theorem nil_lcsLen (x : List ByteArray) : lcsLen [] x = 0 := by simp [lcsLen]
theorem lcsLen_le : ∀ x y : List ByteArray, lcsLen x y ≤ x.length
 | [], y => by simp [lcsLen]
 | x :: xs, [] => by simp [lcsLen]
 | x :: xs, y :: ys => by
  have h1 := lcsLen_le xs ys
  have h2 := lcsLen_le xs (y :: ys)
  have h3 := lcsLen_le (x :: xs) ys
  rw [lcsLen]
  simp only [List.length_cons] at *
  split <;> omega
termination_by x y => x.length + y.length
theorem lcsLen_at {x y : List ByteArray} {i j : Nat} (hi : i < x.length) (hj : j < y.length) :
  lcsLen (x.drop i) (y.drop j) = if x[i] = y[j] then lcsLen (x.drop (i + 1)) (y.drop (j + 1)) + 1 else max (lcsLen (x.drop (i + 1)) (y.drop j)) (lcsLen (x.drop i) (y.drop (j + 1))) := by
 have hx := List.drop_eq_getElem_cons hi
 have hy := List.drop_eq_getElem_cons hj
 conv => lhs; rw [hx, hy, lcsLen]
 rw [hx, hy]
def cellOf (x y : List ByteArray) (i c : Nat) : Int := (lcsLen (x.drop i) (y.drop c) : Int)
def rowOf (x y : List ByteArray) (i : Nat) : List Int := (List.range (y.length + 1)).map (cellOf x y i)
def tabOf (x y : List ByteArray) : List (List Int) := (List.range (x.length + 1)).map (rowOf x y)
theorem rowOf_at {x y : List ByteArray} {i c : Nat} (h : c ≤ y.length) : (rowOf x y i)[c]? = some (cellOf x y i c) := by
 simp [rowOf, show c < y.length + 1 by omega]
theorem tabOf_at {x y : List ByteArray} {i : Nat} (h : i ≤ x.length) : (tabOf x y)[i]? = some (rowOf x y i) := by
 simp [tabOf, show i < x.length + 1 by omega]
theorem row_ext {x y : List ByteArray} {i : Nat} {r : List Int} (hl : r.length = y.length + 1) (h : ∀ c, c ≤ y.length → r[c]? = some (cellOf x y i c)) : r = rowOf x y i := by
 apply List.ext_getElem?
 intro c
 by_cases hc : c ≤ y.length
 ·rw [h c hc, rowOf_at hc]
 ·rw [List.getElem?_eq_none (by omega), List.getElem?_eq_none (by simp [rowOf]; omega)]
theorem tab_ext {x y : List ByteArray} {T : List (List Int)} (hl : T.length = x.length + 1) (h : ∀ r, r ≤ x.length → T[r]? = some (rowOf x y r)) : T = tabOf x y := by
 apply List.ext_getElem?
 intro c
 by_cases hc : c ≤ x.length
 ·rw [h c hc, tabOf_at hc]
 ·rw [List.getElem?_eq_none (by omega), List.getElem?_eq_none (by simp [tabOf]; omega)]
structure Inv0 (x y : List ByteArray) (T : List (List Int)) (i : Nat) : Prop where
 len : T.length = x.length + 1
 rows : ∀ r, i ≤ r → r ≤ x.length → T[r]? = some (rowOf x y r)
structure Inv1 (x y : List ByteArray) (T : List (List Int)) (i j : Nat) (row : List Int) : Prop where
 inv : Inv0 x y T (i + 1)
 at_ : T[i]? = some row
 len : row.length = y.length + 1
 cells : ∀ c, j ≤ c → c ≤ y.length → row[c]? = some (cellOf x y i c)
theorem rdL_of {T : List (List Int)} {i : Nat} {row : List Int} (h : T[i]? = some row) : rd_LI T (i : Int) = row := by
 rw [rd_LI, Int.toNat_natCast, List.getD_eq_getElem?_getD, h, Option.getD_some]
theorem rd_of {r : List Int} {i : Nat} {v : Int} (h : r[i]? = some v) : rd r (i : Int) = v := by
 rw [rd, Int.toNat_natCast, List.getD_eq_getElem?_getD, h, Option.getD_some]
theorem Inv1.set {x y : List ByteArray} {T : List (List Int)} {i j : Nat} {row : List Int} (h : Inv1 x y T i (j + 1) row) (hi : i < x.length) (hj : j ≤ y.length) {v : Int} (hv : v = cellOf x y i j) :
  Inv1 x y (T.set i (row.set j v)) i j (row.set j v) := by
 refine ⟨⟨by rw [List.length_set]; exact h.inv.len, fun r h1 h2 => ?_⟩, ?_, by rw [List.length_set]; exact h.len, fun c h1 h2 => ?_⟩
 ·rw [List.getElem?_set_ne (by omega)]
  exact h.inv.rows r h1 h2
 ·rw [List.getElem?_set_self (by have := h.inv.len; omega)]
 ·by_cases hc : j = c
  ·subst hc
   rw [List.getElem?_set_self (by have := h.len; omega), hv]
  ·rw [List.getElem?_set_ne hc]
   exact h.cells c (by omega) h2
theorem table_l1 (x y : List ByteArray) (hx : x.length ≤ 65536) (hy : y.length ≤ 65536) (i : Nat) (hi : i < x.length)
  (hrec : ∀ T, Inv0 x y T i → Ev (fun k => diff_table.l0 k x y T ((i : Int) - 1)) (tabOf x y)) : ∀ j, j ≤ y.length → ∀ T row, Inv1 x y T i j row → Ev (fun k => diff_table.l1 k x y T (i : Int) ((j : Int) - 1)) (tabOf x y) := by
 intro j
 induction j with
 | zero =>
  intro _ T row h
  refine Ev.step (fun _ => diff_table.l1.eq_2 ..) ?_
  simp only [if_neg (show ¬ (((0 : Nat) : Int) - 1) ≥ 0 by omega), w_in (x := (i : Int) - 1) (by omega) (by omega)]
  refine hrec T ⟨h.inv.len, fun r h1 h2 => ?_⟩
  by_cases hr : i = r
  ·subst hr
   rw [h.at_, row_ext h.len (fun c hc => h.cells c (Nat.zero_le _) hc)]
  ·exact h.inv.rows r (by omega) h2
 | succ j ih =>
  intro hj T row h
  refine Ev.step (fun _ => diff_table.l1.eq_2 ..) ?_
  have hTl := h.inv.len
  have hrl := h.len
  have e0 : (((j + 1 : Nat) : Int) - 1) = (j : Int) := by omega
  have ri := rdL_of h.at_
  have hi1 : wrap64 ((i : Int) + 1) = ((i + 1 : Nat) : Int) := w_succ hi (by omega)
  have hj1 : wrap64 ((j : Int) + 1) = ((j + 1 : Nat) : Int) := w_succ (show j < y.length by omega) (by omega)
  have rn := h.inv.rows (i + 1) (Nat.le_refl _) (by omega)
  have rn' := rdL_of rn
  have hnl : (rowOf x y (i + 1)).length = y.length + 1 := by simp [rowOf]
  have c1 := rd_of (rowOf_at (x := x) (y := y) (i := i + 1) (c := j) (by omega))
  have c2 := rd_of (h.cells (j + 1) (Nat.le_refl _) hj)
  have c3 := rd_of (rowOf_at (x := x) (y := y) (i := i + 1) (c := j + 1) hj)
  have jm : wrap64 ((j : Int) - 1) = (j : Int) - 1 := w_in (by omega) (by omega)
  have hb : cellOf x y (i + 1) j ≤ 65536 ∧ cellOf x y (i + 1) (j + 1) + 1 ≤ 9223372036854775807 ∧ 0 ≤ cellOf x y (i + 1) (j + 1) := by
   have q1 := lcsLen_le (x.drop (i + 1)) (y.drop j)
   have q2 := lcsLen_le (x.drop (i + 1)) (y.drop (j + 1))
   rw [List.length_drop] at q1 q2
   unfold cellOf
   omega
  have hmx : mx (cellOf x y (i + 1) j) (cellOf x y i (j + 1)) = max (cellOf x y (i + 1) j) (cellOf x y i (j + 1)) := by unfold mx; omega
  simp only [e0, if_pos (show (j : Int) ≥ 0 by omega), if_pos (show 0 ≤ (i : Int) by omega), if_pos (show (i : Int) < (T.length : Int) by omega), hi1, if_pos (show 0 ≤ ((i + 1 : Nat) : Int) by omega), if_pos (show ((i + 1 : Nat) : Int) < (T.length : Int) by omega), if_pos (show 0 ≤ (j : Int) by omega), rn', ri,
   if_pos (show (j : Int) < ((rowOf x y (i + 1)).length : Int) by omega), hj1, if_pos (show 0 ≤ ((j + 1 : Nat) : Int) by omega), if_pos (show ((j + 1 : Nat) : Int) < (row.length : Int) by omega), if_pos (show (j : Int) < (row.length : Int) by omega), c1, c2, hmx, Option.bind_some,
   if_pos (show (i : Int) < (x.length : Int) by omega), if_pos (show (j : Int) < (y.length : Int) by omega), rdS_at hi, rdS_at (show j < y.length by omega), toList_iff, Int.toNat_natCast, jm]
  have hla := lcsLen_at hi (show j < y.length by omega)
  by_cases he : x[i] = y[j]
  ·rw [if_pos he] at hla
   have r2 : (T.set i (row.set j (max (cellOf x y (i + 1) j) (cellOf x y i (j + 1)))))[i + 1]? = some (rowOf x y (i + 1)) := by rw [List.getElem?_set_ne (by omega)]; exact rn
   have r3 : (T.set i (row.set j (max (cellOf x y (i + 1) j) (cellOf x y i (j + 1)))))[i]? = some (row.set j (max (cellOf x y (i + 1) j) (cellOf x y i (j + 1)))) := by rw [List.getElem?_set_self (by omega)]
   simp only [if_pos he, rdL_of r2, rdL_of r3, if_pos (show ((j + 1 : Nat) : Int) < ((rowOf x y (i + 1)).length : Int) by omega), List.length_set, if_pos (show (j : Int) < (row.length : Int) by omega), c3, List.set_set, w_in (x := cellOf x y (i + 1) (j + 1) + 1) (by omega) (by omega)]
   exact ih (by omega) _ _ (h.set hi (by omega) (by unfold cellOf; rw [hla]; omega))
  ·rw [if_neg he] at hla
   simp only [if_neg he]
   exact ih (by omega) _ _ (h.set hi (by omega) (by unfold cellOf; rw [hla]; omega))
theorem table_l0 (x y : List ByteArray) (hx : x.length ≤ 65536) (hy : y.length ≤ 65536) : ∀ i, i ≤ x.length → ∀ T, Inv0 x y T i → Ev (fun k => diff_table.l0 k x y T ((i : Int) - 1)) (tabOf x y) := by
 intro i
 induction i with
 | zero =>
  intro _ T h
  refine Ev.step (fun _ => diff_table.l0.eq_2 ..) ?_
  simp only [if_neg (show ¬ (((0 : Nat) : Int) - 1) ≥ 0 by omega)]
  rw [← tab_ext h.len (fun r hr => h.rows r (Nat.zero_le _) hr)]
  exact Ev.now _
 | succ i ih =>
  intro hi T h
  refine Ev.step (fun _ => diff_table.l0.eq_2 ..) ?_
  have hTl := h.len
  have e0 : (((i + 1 : Nat) : Int) - 1) = (i : Int) := by omega
  have w1 : wrap64 ((y.length : Int) + 1) = ((y.length + 1 : Nat) : Int) := by unfold wrap64; omega
  have w2 : wrap64 ((y.length : Int) - 1) = (y.length : Int) - 1 := w_in (by omega) (by omega)
  simp only [e0, if_pos (show (i : Int) ≥ 0 by omega), w1, if_pos (show 0 ≤ ((y.length + 1 : Nat) : Int) by omega), Int.toNat_natCast, if_pos (show y.length + 1 ≤ 35184372088832 by omega), if_pos (show 0 ≤ (i : Int) by omega), if_pos (show (i : Int) < (T.length : Int) by omega), w2]
  refine table_l1 x y hx hy i (by omega) (fun T' h' => ih (by omega) T' h') y.length (Nat.le_refl _) _ (List.replicate (y.length + 1) 0) ⟨⟨by rw [List.length_set]; exact hTl, fun r h1 h2 => ?_⟩, ?_, by simp, fun c h1 h2 => ?_⟩
  ·rw [List.getElem?_set_ne (by omega)]
   exact h.rows r h1 h2
  ·rw [List.getElem?_set_self (by omega)]
  ·have hc : c = y.length := by omega
   subst hc
   simp [cellOf, lcsLen_nil]
theorem table_ok (x y : List ByteArray) (hx : x.length ≤ 65536) (hy : y.length ≤ 65536) : ∃ k T, diff_table.f k x y = some T ∧ IsTab x y T := by
 have w0 : wrap64 ((x.length : Int) + 1) = ((x.length + 1 : Nat) : Int) := by unfold wrap64; omega
 have w1 : wrap64 ((y.length : Int) + 1) = ((y.length + 1 : Nat) : Int) := by unfold wrap64; omega
 have w2 : wrap64 ((x.length : Int) - 1) = (x.length : Int) - 1 := w_in (by omega) (by omega)
 have h : Ev (fun k => diff_table.f k x y) (tabOf x y) := by
  unfold diff_table.f
  simp only [w0, w1, w2, Int.toNat_natCast, Option.bind_some, List.length_replicate, if_pos (show 0 ≤ ((x.length + 1 : Nat) : Int) by omega), if_pos (show x.length + 1 ≤ 11728124029610 by omega), if_pos (show 0 ≤ ((y.length + 1 : Nat) : Int) by omega), if_pos (show y.length + 1 ≤ 35184372088832 by omega), if_pos (show 0 ≤ (x.length : Int) by omega), if_pos (show (x.length : Int) < ((x.length + 1 : Nat) : Int) by omega)]
  refine table_l0 x y hx hy x.length (Nat.le_refl _) _ ⟨by simp, fun r h1 h2 => ?_⟩
  have hr : r = x.length := by omega
  subst hr
  rw [List.getElem?_set_self (by simp)]
  congr 1
  refine row_ext (by simp) (fun c hc => ?_)
  simp [show c < y.length + 1 by omega, cellOf, nil_lcsLen]
 obtain ⟨k, hk⟩ := h.rounds
 have e : ∀ i, i ≤ x.length → (tabOf x y).getD i [] = rowOf x y i := fun i hi => by rw [List.getD_eq_getElem?_getD, tabOf_at hi, Option.getD_some]
 refine ⟨k, tabOf x y, hk, ⟨by simp [tabOf], fun i hi => ?_, fun i j hi hj => ?_⟩⟩
 ·rw [e i hi]; simp [rowOf]
 ·rw [e i hi, List.getD_eq_getElem?_getD, rowOf_at hj, Option.getD_some]; rfl
end Go.Proofs.Ytlabiajcohmjhaa.Pr
