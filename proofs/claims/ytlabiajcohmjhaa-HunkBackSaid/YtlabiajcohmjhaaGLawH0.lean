/-
What the laws of layer 5 have in common: the example, what is between two lists.
-/
import Derived.Test.YtlabiajcohmjhaaGM2
import Derived.Test.YtlabiajcohmjhaaGDiff
import Derived.Test.YtlabiajcohmjhaaGAwakeH
namespace Go.Proofs.Ytlabiajcohmjhaa.Pr
open Go.RowKit Go.Proofs.YtlabiajcohmjhaaW.PrintWords Go.Proofs.YtlabiajcohmjhaaW.PrintLast Go.Proofs.YtlabiajcohmjhaaW.PrintMore
set_option linter.unusedVariables false
set_option linter.unusedSimpArgs false
theorem len_le_size : ∀ (l : List Ed) (fr many : Int), okFrom fr many l = true → (l.length : Int) ≤ sizeE l
 | [], fr, many, h => by simp [sizeE]
 | e :: l, fr, many, h => by
  obtain ⟨c1, c2, c3, c4, c5, h'⟩ := okFrom_cons h
  have ih := len_le_size l _ _ h'
  simp only [sizeE, List.length_cons]
  have : e.f1 = 0 → e.f2.length ≠ 0 := fun h0 h1 => c5 ⟨h0, List.eq_nil_of_length_eq_zero h1⟩
  push_cast
  omega
theorem small_mul {m n k : Nat} (h1 : m ≤ k) (h2 : n ≤ k) (hk : k ≤ 40) : m * n ≤ 65536 := by
 have := Nat.mul_le_mul h1 h2
 have := Nat.mul_le_mul hk hk
 omega
theorem Diff_some (a b : List ByteArray) (h1 : a.length ≤ 4096) (h2 : b.length ≤ 4096) : diff_Diff.f a b = some (between a b) := by
 rw [diff_Diff.f, if_pos (by omega)]
theorem rdH_at {xs : List Hk} {i : Nat} (h : i < xs.length) : rd_T33 xs (i : Int) = xs[i] := by
 rw [rd_T33, Int.toNat_natCast, List.getD_eq_getElem?_getD, List.getElem?_eq_getElem h, Option.getD_some]
theorem play_mem (a : List ByteArray) : ∀ (l : List Ed) (t : Nat) (e : Ed) (s : ByteArray), e ∈ l → s ∈ e.f2 → s ∈ playFrom a t l
 | x :: l, t, e, s, he, hs => by
  simp only [playFrom, List.mem_append]
  rcases List.mem_cons.1 he with rfl | he
  ·exact Or.inl (Or.inr hs)
  ·exact Or.inr (play_mem a l _ e s he hs)
theorem mod_in {x n : Int} (h0 : 0 ≤ x) (hn : 0 < n) (hn2 : n ≤ 1001) : wrap64 (Int.tmod x n) = x % n ∧ 0 ≤ x % n ∧ x % n < n := by
 have h1 := Int.emod_nonneg x (show n ≠ 0 by omega)
 have h2 := Int.emod_lt_of_pos x hn
 rw [Int.tmod_eq_emod_of_nonneg h0]
 exact ⟨w_in (by omega) (by omega), h1, h2⟩
theorem u16_nn {a : Int} (h : (Lit.int .u16 a).wf = true) : 0 ≤ a := by
 simp only [Lit.wf, Bool.and_eq_true, decide_eq_true_eq] at h
 have e1 : IntKind.u16.min = 0 := rfl
 omega
theorem u8_nn {a : Int} (h : (Lit.int .u8 a).wf = true) : 0 ≤ a := by
 simp only [Lit.wf, Bool.and_eq_true, decide_eq_true_eq] at h
 have e1 : IntKind.u8.min = 0 := rfl
 omega
theorem breaks_most (ar : Int) : ∀ (l : List Ed) (p : Ed), breaks ar p l ≤ l.length
 | [], p => Nat.le_refl _
 | e :: l, p => by have := breaks_most ar l e; rw [breaks, List.length_cons]; split <;> omega
theorem makeH_most (a : List ByteArray) (ar : Int) (l : List Ed) : (makeH a ar 0 l).length ≤ l.length := by
 rw [makeH_len a _ _ l 0 (Nat.le_refl _)]
 cases l with
 | nil => exact Nat.le_refl _
 | cons p l => have := breaks_most ar l p; show 1 + _ ≤ _; rw [List.length_cons]; omega
structure LawB (a b : List ByteArray) : Prop where
 ok : okFrom 0 a.length (between a b) = true
 pl : playFrom a 0 (between a b) = b
 len : (between a b).length ≤ 80
 ins : insE (between a b) ≤ 80
 sz : 0 ≤ sizeE (between a b) ∧ sizeE (between a b) ≤ 80
 o40 : Ok40 (between a b)
 str : ∀ e ∈ between a b, ∀ s ∈ e.f2, s.size ≤ 4611686018427387904
theorem law_between (a b : List ByteArray) (ha : a.length ≤ 40) (hb : b.length ≤ 40) (zb : ∀ s ∈ b, s.size ≤ 140737488351232) : LawB a b := by
 obtain ⟨o1, p1⟩ := between_ok a b
 have hs := between_size a b (small_mul (k := 40) ha hb (by omega))
 have hl := len_le_size _ _ _ o1
 have hi := insE_le (between a b)
 have hn := sizeE_nonneg (between a b)
 refine ⟨o1, p1, by omega, by omega, ⟨hn, by omega⟩, ⟨by omega, fun e he => by have := insE_mem' _ e he; omega⟩, fun e he s hs => ?_⟩
 have := zb s (by rw [← p1]; exact play_mem a _ 0 e s he hs)
 omega
end Go.Proofs.Ytlabiajcohmjhaa.Pr
