/-
LinesJoins answers true: the plain part.
-/
import Derived.Test.YtplclofakoffmaaGAwakeL
import Derived.Test.YtplclofakoffmaaD4e
namespace Go.Proofs.Ytplclofakoffmaa.Pr
open Go.RowKit Go.Proofs.YtplclofakoffmaaW.PrintWords Go.Proofs.YtplclofakoffmaaW.PrintLast Go.Proofs.YtplclofakoffmaaW.PrintMore
set_option linter.unusedVariables false
set_option linter.unusedSimpArgs false
theorem few_and {l : List ByteArray} (h : fewL l = true) : l.length ≤ 40 ∧ totL l ≤ 400 := by
  unfold fewL at h
  rw [Bool.and_eq_true, decide_eq_true_iff, decide_eq_true_iff] at h
  exact h
theorem LinesJoins_pure (l : List ByteArray) (hl : l.length * 16 ≤ 140737488351232) : ∃ k, grapevinelaw03_LinesJoins.f k l = some true := by
  refine Ev.rounds ?_
  unfold grapevinelaw03_LinesJoins.f
  refine Ev.bind awake_ev ?_
  refine Ev.bind (few_ev l) ?_
  cases hf : fewL l with
  | false =>
    simp only [Bool.false_eq_true, if_false]
    exact Ev.now _
  | true =>
    obtain ⟨h1, h2⟩ := few_and hf
    obtain ⟨h3, h4⟩ := few_flat l h2
    simp only [if_true]
    refine Ev.bind (Ev.none_of fun _ => Join_some l (by omega) (by omega)) ?_
    refine Ev.bind (RJoin_ev l (by omega) (by omega)) ?_
    simp only [if_true]
    refine Ev.bind (Right_ev l (by omega) (by omega)) ?_
    refine Ev.bind (RRight_ev l (by omega) (fun s hs => by have := h4 s hs; omega)) ?_
    rw [show decide (l = linesB (flatB l)) = rightB (dat l) from by rw [Bool.eq_iff_iff, decide_eq_true_iff, right_iff, rightB_iff], beq_self_eq_true]
    exact Ev.now _
end Go.Proofs.Ytplclofakoffmaa.Pr
