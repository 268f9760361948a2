/-
The document's Common is the length of a longest common subsequence; the law DiffLeast answers true: the plain part.
-/
import Derived.Test.YtebfopcihjadpaaGMathL
import Derived.Test.YtebfopcihjadpaaD3
namespace Go.Proofs.Ytebfopcihjadpaa.Pr
open Go.RowKit Go.Proofs.YtebfopcihjadpaaW.PrintWords Go.Proofs.YtebfopcihjadpaaW.PrintLast Go.Proofs.YtebfopcihjadpaaW.PrintMore
set_option linter.unusedVariables false
set_option linter.unusedSimpArgs false
/-- A row of numbers by a function. -/
def rowF (n : Nat) (f : Nat → Int) : List Int := (List.range n).map f
theorem rowF_len (n : Nat) (f : Nat → Int) : (rowF n f).length = n := by simp [rowF]
theorem rowF_rd {n : Nat} {f : Nat → Int} {j : Nat} (h : j < n) : rd (rowF n f) (j : Int) = f j := by
  rw [rd, Int.toNat_natCast, rowF, List.getD_eq_getElem?_getD, List.getElem?_map, List.getElem?_range h]
  rfl
theorem rowF_set {n : Nat} {f : Nat → Int} {j : Nat} {v : Int} : (rowF n f).set j v = rowF n (fun i => if i = j then v else f i) := by
  apply List.ext_getElem?
  intro i
  rw [rowF, rowF, List.getElem?_set]
  by_cases h : j = i
  · subst h
    by_cases hn : j < n
    · simp [hn]
    · simp [hn]
  · rw [if_neg h]
    by_cases hn : i < n
    · simp [hn, Ne.symm h]
    · simp [hn]
theorem rowF_congr {n : Nat} {f g : Nat → Int} (h : ∀ j, j < n → f j = g j) : rowF n f = rowF n g := List.map_congr_left fun j hj => h j (List.mem_range.1 hj)
theorem replicate_rowF (n : Nat) : List.replicate n (0 : Int) = rowF n (fun _ => 0) := by
  apply List.ext_getElem?
  intro i
  by_cases h : i < n <;> simp [rowF, h]
/-- The row of the lines in front. -/
def rowAt (x y : List ByteArray) (i : Nat) : List Int := rowF (y.length + 1) (fun j => (lcsLen (x.take i) (y.take j) : Int))
/-- The next row, as far as it has come. -/
def rowTo (x y : List ByteArray) (i k : Nat) : List Int := rowF (y.length + 1) (fun j => if j ≤ k then (lcsLen (x.take (i + 1)) (y.take j) : Int) else 0)
theorem lcs_take (x y : List ByteArray) (i k : Nat) (hi : i < x.length) (hk : k < y.length) :
    lcsLen (x.take (i + 1)) (y.take (k + 1)) = if x[i] = y[k] then lcsLen (x.take i) (y.take k) + 1 else max (lcsLen (x.take i) (y.take (k + 1))) (lcsLen (x.take (i + 1)) (y.take k)) := by
  rw [List.take_succ_eq_append_getElem hi, List.take_succ_eq_append_getElem hk, lcs_snoc]
theorem lcs_take_le (x y : List ByteArray) (i k : Nat) : lcsLen (x.take i) (y.take k) ≤ x.length := Nat.le_trans (lcs_le _ _).1 (by rw [List.length_take]; omega)
theorem Common_l1 (x y : List ByteArray) (hx : x.length ≤ 1099511627776) (hy : y.length ≤ 1099511627776) (i : Nat) (hi : i < x.length) (r : Int)
    (rest : Ev (fun n => grapevineref04_Common.l0 n x y (rowAt x y (i + 1)) ((i + 1 : Nat) : Int)) r) : ∀ (d k : Nat), y.length - k = d → k ≤ y.length →
    Ev (fun n => grapevineref04_Common.l1 n x y (rowAt x y i) (i : Int) (rowTo x y i k) (k : Int)) r := by
  intro d
  induction d with
  | zero =>
    intro k hd hk
    refine Ev.step (fun _ => grapevineref04_Common.l1.eq_2 ..) ?_
    have e : rowTo x y i k = rowAt x y (i + 1) := rowF_congr fun j hj => by rw [if_pos (by omega)]
    simp only [if_neg (show ¬ (k : Int) < (y.length : Int) by omega), e, w_succ hi (show x.length ≤ 4611686018427387904 by omega)]
    exact rest
  | succ d ih =>
    intro k hd hk
    refine Ev.step (fun _ => grapevineref04_Common.l1.eq_2 ..) ?_
    have hk' : k < y.length := by omega
    have l1 : (rowTo x y i k).length = y.length + 1 := rowF_len _ _
    have l2 : (rowAt x y i).length = y.length + 1 := rowF_len _ _
    have r1 : rd (rowTo x y i k) (k : Int) = (lcsLen (x.take (i + 1)) (y.take k) : Int) := by rw [rowTo, rowF_rd (by omega), if_pos (Nat.le_refl _)]
    have r2 : rd (rowAt x y i) ((k + 1 : Nat) : Int) = (lcsLen (x.take i) (y.take (k + 1)) : Int) := by rw [rowAt, rowF_rd (by omega)]
    have r3 : rd (rowAt x y i) (k : Int) = (lcsLen (x.take i) (y.take k) : Int) := by rw [rowAt, rowF_rd (by omega)]
    have ht := lcs_take x y i k hi hk'
    have hle := lcs_take_le x y i k
    have hw : wrap64 ((lcsLen (x.take i) (y.take k) : Int) + 1) = (lcsLen (x.take i) (y.take k) : Int) + 1 := w_in (by omega) (by omega)
    simp only [if_pos (show (k : Int) < (y.length : Int) by omega), if_pos (show 0 ≤ (k : Int) by omega), w_succ hk' (show y.length ≤ 4611686018427387904 by omega), l1, l2,
      if_pos (show (k : Int) < ((y.length + 1 : Nat) : Int) by omega), if_pos (show 0 ≤ ((k + 1 : Nat) : Int) by omega), if_pos (show ((k + 1 : Nat) : Int) < ((y.length + 1 : Nat) : Int) by omega), Option.bind_some,
      if_pos (show 0 ≤ (i : Int) by omega), if_pos (show (i : Int) < (x.length : Int) by omega), rdS_at hi, rdS_at hk', toList_iff, r1, r2, r3, hw, Int.toNat_natCast]
    have h := ih (k + 1) (by omega) (by omega)
    by_cases he : x[i] = y[k]
    · simp only [if_pos he]
      rw [if_pos he] at ht
      have e : ((rowTo x y i k).set (k + 1) (mx (lcsLen (x.take (i + 1)) (y.take k) : Int) (lcsLen (x.take i) (y.take (k + 1)) : Int))).set (k + 1) ((lcsLen (x.take i) (y.take k) : Int) + 1) = rowTo x y i (k + 1) := by
        rw [List.set_set, rowTo, rowF_set]
        refine rowF_congr fun j hj => ?_
        by_cases hj1 : j = k + 1
        · rw [if_pos hj1, if_pos (by omega), hj1, ht]; push_cast; rfl
        · rw [if_neg hj1]
          by_cases hj2 : j ≤ k
          · rw [if_pos hj2, if_pos (by omega)]
          · rw [if_neg hj2, if_neg (by omega)]
      rw [e]
      exact h
    · simp only [if_neg he]
      rw [if_neg he] at ht
      have e : (rowTo x y i k).set (k + 1) (mx (lcsLen (x.take (i + 1)) (y.take k) : Int) (lcsLen (x.take i) (y.take (k + 1)) : Int)) = rowTo x y i (k + 1) := by
        rw [rowTo, rowF_set]
        refine rowF_congr fun j hj => ?_
        by_cases hj1 : j = k + 1
        · rw [if_pos hj1, if_pos (by omega), hj1, ht]
          unfold mx
          omega
        · rw [if_neg hj1]
          by_cases hj2 : j ≤ k
          · rw [if_pos hj2, if_pos (by omega)]
          · rw [if_neg hj2, if_neg (by omega)]
      rw [e]
      exact h
theorem rowTo_zero (x y : List ByteArray) (i : Nat) : List.replicate (y.length + 1) (0 : Int) = rowTo x y i 0 := by
  rw [replicate_rowF, rowTo]
  refine rowF_congr fun j hj => ?_
  by_cases h : j ≤ 0
  · rw [if_pos h, show j = 0 by omega, List.take_zero, lcs_nil]; rfl
  · rw [if_neg h]
theorem Common_l0 (x y : List ByteArray) (hx : x.length ≤ 1099511627776) (hy : y.length ≤ 1099511627776) : ∀ (d i : Nat), x.length - i = d → i ≤ x.length →
    Ev (fun n => grapevineref04_Common.l0 n x y (rowAt x y i) (i : Int)) (lcsLen x y : Int) := by
  have hw : wrap64 ((y.length : Int) + 1) = ((y.length + 1 : Nat) : Int) := by rw [w_in (by omega) (by omega)]; rfl
  intro d
  induction d with
  | zero =>
    intro i hd hi
    refine Ev.step (fun _ => grapevineref04_Common.l0.eq_2 ..) ?_
    have l2 : (rowAt x y i).length = y.length + 1 := rowF_len _ _
    simp only [if_neg (show ¬ (i : Int) < (x.length : Int) by omega), if_pos (show 0 ≤ (y.length : Int) by omega), l2, if_pos (show (y.length : Int) < ((y.length + 1 : Nat) : Int) by omega)]
    rw [rowAt, rowF_rd (by omega), List.take_of_length_le (by omega), List.take_of_length_le (by omega)]
    exact Ev.now _
  | succ d ih =>
    intro i hd hi
    refine Ev.step (fun _ => grapevineref04_Common.l0.eq_2 ..) ?_
    simp only [if_pos (show (i : Int) < (x.length : Int) by omega), hw, if_pos (show 0 ≤ ((y.length + 1 : Nat) : Int) by omega), Int.toNat_natCast, if_pos (show y.length + 1 ≤ 35184372088832 by omega)]
    rw [rowTo_zero x y i]
    exact Common_l1 x y hx hy i (by omega) _ (ih (i + 1) (by omega) (by omega)) _ 0 rfl (by omega)
theorem Common_ev (x y : List ByteArray) (hx : x.length ≤ 1099511627776) (hy : y.length ≤ 1099511627776) : Ev (fun n => grapevineref04_Common.f n x y) (lcsLen x y : Int) := by
  have hw : wrap64 ((y.length : Int) + 1) = ((y.length + 1 : Nat) : Int) := by rw [w_in (by omega) (by omega)]; rfl
  unfold grapevineref04_Common.f
  simp only [hw, if_pos (show 0 ≤ ((y.length + 1 : Nat) : Int) by omega), Int.toNat_natCast, if_pos (show y.length + 1 ≤ 35184372088832 by omega)]
  have e : List.replicate (y.length + 1) (0 : Int) = rowAt x y 0 := by
    rw [replicate_rowF, rowAt]
    exact rowF_congr fun j hj => by rw [List.take_zero, nil_lcs]; rfl
  rw [e]
  exact Common_l0 x y hx hy _ 0 rfl (by omega)
end Go.Proofs.Ytebfopcihjadpaa.Pr
