/-
What the printed functions of layer 4 compute, as plain Lean: equality of lists, what is right, sizes.
-/
import Derived.Lib.SlicesS
import Derived.Test.YtlabiajcohmjhaaGSame
import Derived.Test.YtlabiajcohmjhaaD1a
import Derived.Test.YtlabiajcohmjhaaD12b
import Derived.Test.YtlabiajcohmjhaaD6b
namespace Go.Proofs.Ytlabiajcohmjhaa.Pr
open Go.RowKit Go.Proofs.YtlabiajcohmjhaaW.PrintWords Go.Proofs.YtlabiajcohmjhaaW.PrintLast Go.Proofs.YtlabiajcohmjhaaW.PrintMore
set_option linter.unusedVariables false
set_option linter.unusedSimpArgs false
def okFrom (fr many : Int) : List Ed → Bool
 | [] => true
 | e :: l => decide (fr ≤ e.f0 ∧ 0 ≤ e.f1 ∧ e.f0 ≤ many ∧ e.f1 ≤ many - e.f0 ∧ ¬ (e.f1 = 0 ∧ e.f2 = [])) && okFrom (e.f0 + e.f1 + 1) many l
theorem Right_l0 (many : Int) (l : List Ed) (hm0 : -4611686018427387904 ≤ many) (hm : many ≤ 4611686018427387904) (hn : l.length ≤ 4611686018427387904) : ∀ d i fr, l.length - i = d → i ≤ l.length → 0 ≤ fr →
  Ev (fun k => diff_Right.l0 k many fr l (l.length : Int) (i : Int)) (okFrom fr many (l.drop i)) := by
 intro d
 induction d with
 | zero =>
  intro i fr hd hi hf
  refine Ev.step (fun _ => diff_Right.l0.eq_2 ..) ?_
  simp only [if_neg (show ¬ (i : Int) < (l.length : Int) by omega)]
  rw [List.drop_of_length_le (by omega)]
  exact Ev.now _
 | succ d ih =>
  intro i fr hd hi hf
  refine Ev.step (fun _ => diff_Right.l0.eq_2 ..) ?_
  have h0 : i < l.length := by omega
  rw [List.drop_eq_getElem_cons h0]
  simp only [okFrom, if_pos (show (i : Int) < (l.length : Int) by omega), if_pos (show 0 ≤ (i : Int) by omega), rdE_at h0, w_succ h0 hn]
  have hlen : (l[i].f2.length : Int) = 0 ↔ l[i].f2 = [] := by
   rw [show ((l[i].f2.length : Int) = 0) = (l[i].f2.length = 0) from propext (by omega), List.length_eq_zero_iff]
  by_cases c1 : l[i].f0 < fr
  ·simp only [if_pos c1]
   rw [decide_eq_false (by omega)]
   exact Ev.now _
  simp only [if_neg c1]
  by_cases c2 : l[i].f1 < 0
  ·simp only [if_pos c2]
   rw [decide_eq_false (by omega)]
   exact Ev.now _
  simp only [if_neg c2]
  by_cases c3 : l[i].f0 > many
  ·simp only [if_pos c3]
   rw [decide_eq_false (by omega)]
   exact Ev.now _
  simp only [if_neg c3, w_in (show -9223372036854775808 ≤ many - l[i].f0 by omega) (show many - l[i].f0 ≤ 9223372036854775807 by omega)]
  by_cases c4 : l[i].f1 > many - l[i].f0
  ·simp only [if_pos c4]
   rw [decide_eq_false (by omega)]
   exact Ev.now _
  simp only [if_neg c4, w_in (show -9223372036854775808 ≤ l[i].f0 + l[i].f1 by omega) (show l[i].f0 + l[i].f1 ≤ 9223372036854775807 by omega), w_in (show -9223372036854775808 ≤ l[i].f0 + l[i].f1 + 1 by omega) (show l[i].f0 + l[i].f1 + 1 ≤ 9223372036854775807 by omega), hlen]
  have h := ih (i + 1) (l[i].f0 + l[i].f1 + 1) (by omega) (by omega) (by omega)
  by_cases c5 : l[i].f1 = 0
  ·simp only [if_pos c5]
   by_cases c6 : l[i].f2 = []
   ·simp only [if_pos c6]
    rw [decide_eq_false (by simp [c5, c6])]
    exact Ev.now _
   ·simp only [if_neg c6]
    rw [decide_eq_true ⟨by omega, by omega, by omega, by omega, fun h => c6 h.2⟩, Bool.true_and]
    exact h
  ·simp only [if_neg c5]
   rw [decide_eq_true ⟨by omega, by omega, by omega, by omega, fun h => c5 h.1⟩, Bool.true_and]
   exact h
theorem Right_ev (many : Int) (l : List Ed) (hm0 : -4611686018427387904 ≤ many) (hm : many ≤ 4611686018427387904) (hn : l.length ≤ 4611686018427387904) : Ev (fun k => diff_Right.f k many l) (okFrom 0 many l) := by
 have h := Right_l0 many l hm0 hm hn _ 0 0 rfl (by omega) (by omega)
 simpa [diff_Right.f] using h
theorem Few_l0 (l : List Ed) (hn : l.length ≤ 4611686018427387904) : ∀ d i, l.length - i = d → i ≤ l.length →
  Ev (fun k => grapevineref04_Few.l0 k l (i : Int)) (decide ((∀ e ∈ l.drop i, e.f0 ≤ 1048576 ∧ e.f1 ≤ 1048576 ∧ e.f2.length ≤ 20) ∧ l.length ≤ 20)) := by
 intro d
 induction d with
 | zero =>
  intro i hd hi
  refine Ev.step (fun _ => grapevineref04_Few.l0.eq_2 ..) ?_
  simp only [if_neg (show ¬ (i : Int) < (l.length : Int) by omega)]
  rw [List.drop_of_length_le (by omega)]
  have e : decide ((∀ e ∈ ([] : List Ed), e.f0 ≤ 1048576 ∧ e.f1 ≤ 1048576 ∧ e.f2.length ≤ 20) ∧ l.length ≤ 20) = decide ((l.length : Int) ≤ 20) := decide_eq_decide.2 (by simp; omega)
  rw [e]
  exact Ev.now _
 | succ d ih =>
  intro i hd hi
  refine Ev.step (fun _ => grapevineref04_Few.l0.eq_2 ..) ?_
  have h0 : i < l.length := by omega
  have key : ((∀ e ∈ l.drop i, e.f0 ≤ 1048576 ∧ e.f1 ≤ 1048576 ∧ e.f2.length ≤ 20) ∧ l.length ≤ 20) ↔ (l[i].f0 ≤ 1048576 ∧ l[i].f1 ≤ 1048576 ∧ l[i].f2.length ≤ 20) ∧ ((∀ e ∈ l.drop (i + 1), e.f0 ≤ 1048576 ∧ e.f1 ≤ 1048576 ∧ e.f2.length ≤ 20) ∧ l.length ≤ 20) := by
   rw [List.drop_eq_getElem_cons h0]; simp only [List.mem_cons, forall_eq_or_imp, and_assoc]
  simp only [if_pos (show (i : Int) < (l.length : Int) by omega), if_pos (show 0 ≤ (i : Int) by omega), rdE_at h0, w_succ h0 hn]
  by_cases c1 : l[i].f0 > 1048576
  ·simp only [if_pos c1]
   rw [decide_eq_false (by rw [key]; omega)]
   exact Ev.now _
  simp only [if_neg c1]
  by_cases c2 : l[i].f1 > 1048576
  ·simp only [if_pos c2]
   rw [decide_eq_false (by rw [key]; omega)]
   exact Ev.now _
  simp only [if_neg c2]
  by_cases c3 : (l[i].f2.length : Int) > 20
  ·simp only [if_pos c3]
   rw [decide_eq_false (by rw [key]; omega)]
   exact Ev.now _
  simp only [if_neg c3]
  have h := ih (i + 1) (by omega) (by omega)
  rw [decide_eq_decide.2 (show _ ↔ _ from ⟨fun h => key.2 ⟨⟨by omega, by omega, by omega⟩, h⟩, fun h => (key.1 h).2⟩)] at h
  exact h
theorem Few_ev (l : List Ed) (hn : l.length ≤ 4611686018427387904) : Ev (fun k => grapevineref04_Few.f k l) (decide ((∀ e ∈ l, e.f0 ≤ 1048576 ∧ e.f1 ≤ 1048576 ∧ e.f2.length ≤ 20) ∧ l.length ≤ 20)) := by
 have h := Few_l0 l hn _ 0 rfl (by omega)
 simpa [grapevineref04_Few.f] using h
end Go.Proofs.Ytlabiajcohmjhaa.Pr
-- shrunk
