/-
LinesSplits answers true: the plain part.
-/
import Derived.Test.YtplclofakoffmaaGAwakeL
import Derived.Test.YtplclofakoffmaaD3d
namespace Go.Proofs.Ytplclofakoffmaa.Pr
open Go.RowKit Go.Proofs.YtplclofakoffmaaW.PrintWords Go.Proofs.YtplclofakoffmaaW.PrintLast Go.Proofs.YtplclofakoffmaaW.PrintMore
set_option linter.unusedVariables false
set_option linter.unusedSimpArgs false
theorem LinesSplits_pure : grapevinelaw03_LinesSplits.Pure := by
  intro s hs
  refine Ev.rounds ?_
  unfold grapevinelaw03_LinesSplits.f
  refine Ev.bind awake_ev ?_
  by_cases c1 : (s.size : Int) > 400
  · simp only [if_pos c1]; exact Ev.now _
  simp only [if_neg c1]
  have hlen := linesB_len s
  have hT := Texts_ev (linesB s) (linesB s) (by omega)
  rw [decide_eq_true rfl] at hT
  refine Ev.bind (RSplit_ev s (by omega)) ?_
  simp only [if_true]
  refine Ev.bind (Ev.none_of fun _ => Split_some s (by omega)) ?_
  refine Ev.bind hT ?_
  simp only [if_true]
  refine Ev.bind (Ev.none_of fun _ => Count_some s (by omega)) ?_
  simp only [if_true]
  refine Ev.bind (Ev.none_of fun _ => Closed_some s (by omega)) ?_
  refine Ev.bind (Ev.none_of fun _ => RClosed_some s (by omega)) ?_
  simp only [beq_self_eq_true, if_true]
  refine Ev.bind (Ev.none_of fun _ => Binary_some s) ?_
  refine Ev.bind (RBinary_ev s (by omega)) ?_
  rw [beq_self_eq_true]
  exact Ev.now _
end Go.Proofs.Ytplclofakoffmaa.Pr
