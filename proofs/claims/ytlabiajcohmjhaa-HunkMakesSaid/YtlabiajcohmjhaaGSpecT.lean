/-
Equality of two lists of texts, as the printed function has it, in plain Lean.
-/
import Derived.Lib.SlicesS
import Derived.Test.YtlabiajcohmjhaaGPure
import Derived.Test.YtlabiajcohmjhaaD3c
namespace Go.Proofs.Ytlabiajcohmjhaa.Pr
open Go.RowKit Go.Proofs.YtlabiajcohmjhaaW.PrintWords Go.Proofs.YtlabiajcohmjhaaW.PrintLast Go.Proofs.YtlabiajcohmjhaaW.PrintMore
set_option linter.unusedVariables false
set_option linter.unusedSimpArgs false
theorem w_succ {i n : Nat} (h : i < n) (hn : n ≤ 4611686018427387904) : wrap64 ((i : Int) + 1) = ((i + 1 : Nat) : Int) := by unfold wrap64; omega
theorem w_in {x : Int} (h0 : -9223372036854775808 ≤ x) (h1 : x ≤ 9223372036854775807) : wrap64 x = x := by unfold wrap64; omega
theorem rdE_at {xs : List Ed} {i : Nat} (h : i < xs.length) : rd_T51 xs (i : Int) = xs[i] := by
 rw [rd_T51, Int.toNat_natCast, List.getD_eq_getElem?_getD, List.getElem?_eq_getElem h, Option.getD_some]
theorem rdS_at {xs : List ByteArray} {i : Nat} (h : i < xs.length) : rdOf ByteArray.empty xs (i : Int) = xs[i] := by
 rw [rdOf, Int.toNat_natCast, List.getD_eq_getElem?_getD, List.getElem?_eq_getElem h, Option.getD_some]
theorem toList_iff (x y : ByteArray) : x.toList = y.toList ↔ x = y := by
 have := Lib.bytes_beq_iff x y
 rwa [beq_iff_eq] at this
theorem Ev.none_of {α : Type} {g : Nat → Option α} {r : α} (h : ∀ k, g k = some r) : Ev g r := ⟨0, fun k _ => h k⟩
theorem drop_eq_iff {α : Type} {a b : List α} {i : Nat} (h0 : i < a.length) (h1 : i < b.length) : a.drop i = b.drop i ↔ a[i] = b[i] ∧ a.drop (i + 1) = b.drop (i + 1) := by
 rw [List.drop_eq_getElem_cons h0, List.drop_eq_getElem_cons h1, List.cons.injEq]
theorem Texts_l0 (a b : List ByteArray) (hl : a.length = b.length) (hn : a.length ≤ 4611686018427387904) : ∀ d i, a.length - i = d → i ≤ a.length → Ev (fun k => grapevineref01_Texts.l0 k a b (i : Int)) (decide (a.drop i = b.drop i)) := by
 intro d
 induction d with
 | zero =>
  intro i hd hi
  refine Ev.step (fun _ => grapevineref01_Texts.l0.eq_2 ..) ?_
  simp only [if_neg (show ¬ (i : Int) < (a.length : Int) by omega)]
  rw [List.drop_of_length_le (by omega), List.drop_of_length_le (by omega)]
  exact Ev.now _
 | succ d ih =>
  intro i hd hi
  refine Ev.step (fun _ => grapevineref01_Texts.l0.eq_2 ..) ?_
  have h0 : i < a.length := by omega
  have h1 : i < b.length := by omega
  simp only [if_pos (show (i : Int) < (a.length : Int) by omega), if_pos (show 0 ≤ (i : Int) by omega), if_pos (show (i : Int) < (b.length : Int) by omega), rdS_at h0, rdS_at h1, toList_iff, w_succ h0 hn]
  by_cases he : a[i] = b[i]
  ·simp only [if_pos he]
   have h := ih (i + 1) (by omega) (by omega)
   have e : decide (a.drop (i + 1) = b.drop (i + 1)) = decide (a.drop i = b.drop i) := decide_eq_decide.2 (by rw [drop_eq_iff h0 h1]; simp [he])
   rw [e] at h
   exact h
  ·simp only [if_neg he]
   have e : decide (a.drop i = b.drop i) = false := decide_eq_false (by rw [drop_eq_iff h0 h1]; simp [he])
   rw [e]
   exact Ev.now _
theorem Texts_ev (a b : List ByteArray) (hn : a.length ≤ 4611686018427387904) : Ev (fun k => grapevineref01_Texts.f k a b) (decide (a = b)) := by
 unfold grapevineref01_Texts.f
 by_cases hl : a.length = b.length
 ·simp only [if_pos (show (a.length : Int) = (b.length : Int) by omega)]
  have h := Texts_l0 a b hl hn _ 0 rfl (by omega)
  simpa using h
 ·simp only [if_neg (show ¬ (a.length : Int) = (b.length : Int) by omega)]
  rw [decide_eq_false (fun h => hl (by rw [h]))]
  exact Ev.now _
end Go.Proofs.Ytlabiajcohmjhaa.Pr
-- shrunk
