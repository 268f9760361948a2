/-
Whether edits are right, as the document has it, in plain Lean.
-/
import Derived.Test.YtlabiajcohmjhaaGSpecA
import Derived.Test.YtlabiajcohmjhaaD7a
namespace Go.Proofs.Ytlabiajcohmjhaa.Pr
open Go.RowKit Go.Proofs.YtlabiajcohmjhaaW.PrintWords Go.Proofs.YtlabiajcohmjhaaW.PrintLast Go.Proofs.YtlabiajcohmjhaaW.PrintMore
set_option linter.unusedVariables false
set_option linter.unusedSimpArgs false
theorem w_pred {i : Nat} (h : 0 < i) (hn : i ≤ 4611686018427387904) : wrap64 ((i : Int) - 1) = ((i - 1 : Nat) : Int) := by unfold wrap64; omega
theorem RRight_l0 (many : Int) (l : List Ed) (hm0 : -4611686018427387904 ≤ many) (hm : many ≤ 4611686018427387904) (hn : l.length ≤ 4611686018427387904) : ∀ (d i : Nat) (fr : Int), l.length - i = d → i ≤ l.length → 0 ≤ fr →
  (i = 0 ∧ fr = 0 ∨ ∃ h : i - 1 < l.length, 0 < i ∧ fr = l[i - 1].f0 + l[i - 1].f1 + 1 ∧ fr ≤ 4611686018427387905) →
  Ev (fun k => grapevineref04_Right.l0 k many l (i : Int)) (okFrom fr many (l.drop i)) := by
 intro d
 induction d with
 | zero =>
  intro i fr hd hi hf hp
  refine Ev.step (fun _ => grapevineref04_Right.l0.eq_2 ..) ?_
  simp only [if_neg (show ¬ (i : Int) < (l.length : Int) by omega)]
  rw [List.drop_of_length_le (by omega)]
  exact Ev.now _
 | succ d ih =>
  intro i fr hd hi hf hp
  refine Ev.step (fun _ => grapevineref04_Right.l0.eq_2 ..) ?_
  have h0 : i < l.length := by omega
  rw [List.drop_eq_getElem_cons h0]
  have hlen : (l[i].f2.length : Int) = 0 ↔ l[i].f2 = [] := by
   rw [show ((l[i].f2.length : Int) = 0) = (l[i].f2.length = 0) from propext (by omega), List.length_eq_zero_iff]
  have j1t : Ev (fun k => grapevineref04_Right.j1 k many l (i : Int) true) false := by
   refine Ev.step (fun _ => grapevineref04_Right.j1.eq_2 ..) ?_
   exact Ev.now _
  have j2t : Ev (fun k => grapevineref04_Right.j2 k many l (i : Int) true) false := by
   refine Ev.step (fun _ => grapevineref04_Right.j2.eq_2 ..) ?_
   exact Ev.now _
  simp only [okFrom, if_pos (show (i : Int) < (l.length : Int) by omega), if_pos (show 0 ≤ (i : Int) by omega), rdE_at h0]
  by_cases c1 : l[i].f0 < 0
  ·simp only [if_pos c1]
   rw [decide_eq_false (by omega)]
   exact j1t
  simp only [if_neg c1]
  by_cases c2 : l[i].f1 < 0
  ·simp only [if_pos c2]
   rw [decide_eq_false (by omega)]
   exact j1t
  simp only [if_neg c2]
  by_cases c3 : l[i].f0 > many
  ·simp only [if_pos c3]
   rw [decide_eq_false (by omega)]
   exact j1t
  simp only [if_neg c3, w_in (show -9223372036854775808 ≤ many - l[i].f0 by omega) (show many - l[i].f0 ≤ 9223372036854775807 by omega)]
  by_cases c4 : l[i].f1 > many - l[i].f0
  ·rw [decide_eq_true c4, decide_eq_false (by omega)]
   exact j1t
  rw [decide_eq_false c4]
  refine Ev.step (fun _ => grapevineref04_Right.j1.eq_2 ..) ?_
  simp only [Bool.false_eq_true, if_false, if_pos (show (i : Int) < (l.length : Int) by omega), if_pos (show 0 ≤ (i : Int) by omega), rdE_at h0]
  have h := ih (i + 1) (l[i].f0 + l[i].f1 + 1) (by clear hp; omega) (by clear hp; omega) (by clear hp; omega) (.inr ⟨by clear hp; omega, by clear hp; omega, by simp, by clear hp; omega⟩)
  have j2f : ¬ (l[i].f1 = 0 ∧ l[i].f2 = []) → Ev (fun k => grapevineref04_Right.j2 k many l (i : Int) false) (decide (fr ≤ l[i].f0 ∧ 0 ≤ l[i].f1 ∧ l[i].f0 ≤ many ∧ l[i].f1 ≤ many - l[i].f0 ∧ ¬ (l[i].f1 = 0 ∧ l[i].f2 = [])) && okFrom (l[i].f0 + l[i].f1 + 1) many (l.drop (i + 1))) := fun hne => by
   refine Ev.step (fun _ => grapevineref04_Right.j2.eq_2 ..) ?_
   simp only [Bool.false_eq_true, if_false]
   rcases hp with ⟨rfl, rfl⟩ | ⟨hi1, hpos, hfr, hle⟩
   ·simp only [if_neg (show ¬ ((0 : Nat) : Int) > 0 by omega), w_succ h0 hn]
    rw [decide_eq_true ⟨by omega, by omega, by omega, by omega, hne⟩, Bool.true_and]
    exact h
   ·have hw1 : wrap64 ((i : Int) - 1) = ((i - 1 : Nat) : Int) := w_pred hpos (Nat.le_trans hi hn)
    have hw2 : wrap64 (l[i - 1].f0 + l[i - 1].f1) = l[i - 1].f0 + l[i - 1].f1 := w_in (by omega) (by omega)
    simp only [if_pos (show (i : Int) > 0 by omega), if_pos (show (i : Int) < (l.length : Int) by omega), if_pos (show 0 ≤ (i : Int) by omega), hw1, if_pos (show 0 ≤ ((i - 1 : Nat) : Int) by omega), if_pos (show ((i - 1 : Nat) : Int) < (l.length : Int) by omega), rdE_at h0, rdE_at hi1, hw2, w_succ h0 hn]
    by_cases c5 : l[i].f0 ≤ l[i - 1].f0 + l[i - 1].f1
    ·simp only [if_pos c5]
     rw [decide_eq_false (by omega)]
     exact Ev.now _
    ·simp only [if_neg c5]
     rw [decide_eq_true ⟨by omega, by omega, by omega, by omega, hne⟩, Bool.true_and]
     exact h
  by_cases c6 : l[i].f1 = 0
  ·simp only [if_pos c6]
   by_cases c7 : l[i].f2 = []
   ·rw [show ((l[i].f2.length : Int) == 0) = true from beq_iff_eq.2 (hlen.2 c7), decide_eq_false (by simp [c6, c7])]
    exact j2t
   ·rw [show ((l[i].f2.length : Int) == 0) = false from beq_eq_false_iff_ne.2 (fun h => c7 (hlen.1 h))]
    exact j2f (fun h => c7 h.2)
  ·simp only [if_neg c6]
   exact j2f (fun h => c6 h.1)
theorem RRight_ev (many : Int) (l : List Ed) (hm0 : -4611686018427387904 ≤ many) (hm : many ≤ 4611686018427387904) (hn : l.length ≤ 4611686018427387904) : Ev (fun k => grapevineref04_Right.f k many l) (okFrom 0 many l) := by
 have h := RRight_l0 many l hm0 hm hn _ 0 0 rfl (by omega) (by omega) (.inl ⟨rfl, rfl⟩)
 simpa [grapevineref04_Right.f] using h
end Go.Proofs.Ytlabiajcohmjhaa.Pr
-- shrunk
