/-
LinesBack answers true: the plain part.
-/
import Derived.Test.YtplclofakoffmaaGLawLJ
import Derived.Test.YtplclofakoffmaaD4f
namespace Go.Proofs.Ytplclofakoffmaa.Pr
open Go.RowKit Go.Proofs.YtplclofakoffmaaW.PrintWords Go.Proofs.YtplclofakoffmaaW.PrintLast Go.Proofs.YtplclofakoffmaaW.PrintMore
set_option linter.unusedVariables false
set_option linter.unusedSimpArgs false
theorem LinesBack_pure (s : ByteArray) (l : List ByteArray) (hs : s.size ≤ 140737488351232) (hl : l.length * 16 ≤ 140737488351232) : ∃ k, grapevinelaw03_LinesBack.f k s l = some true := by
  refine Ev.rounds ?_
  unfold grapevinelaw03_LinesBack.f
  have j0t : Ev (fun k => grapevinelaw03_LinesBack.j0 k s l true true) true := by
    refine Ev.step (fun _ => grapevinelaw03_LinesBack.j0.eq_2 ..) ?_
    exact Ev.now _
  refine Ev.bind awake_ev ?_
  refine Ev.bind (few_ev l) ?_
  by_cases c1 : (s.size : Int) > 400
  · simp only [if_pos c1]
    exact j0t
  simp only [if_neg c1]
  cases hf : fewL l with
  | false => exact j0t
  | true =>
    obtain ⟨h1, h2⟩ := few_and hf
    obtain ⟨h3, h4⟩ := few_flat l h2
    have hlen := linesB_len s
    have hlen2 := linesB_len (flatB l)
    refine Ev.step (fun _ => grapevinelaw03_LinesBack.j0.eq_2 ..) ?_
    simp only [Bool.not_true, Bool.false_eq_true, if_false, if_true]
    refine Ev.bind (Ev.none_of fun _ => Split_some s (by omega)) ?_
    refine Ev.bind (Right_ev l (by omega) (by omega)) ?_
    refine Ev.bind (Ev.none_of fun _ => Join_some l (by omega) (by omega)) ?_
    refine Ev.bind (Ev.none_of fun _ => Split_some _ (by omega)) ?_
    refine Ev.bind (Texts_ev _ _ (by omega)) ?_
    refine Ev.bind (a := s) (Ev.none_of fun _ => by
      have h := Join_some (linesB s) (by rw [flat_split]; omega) (by omega)
      rwa [flat_split] at h) ?_
    simp only [if_true]
    have hR := Right_ev (linesB s) (by rw [flat_split]; omega) (by omega)
    rw [decide_eq_true (right_split s)] at hR
    refine Ev.bind hR ?_
    simp only [if_true]
    rw [show decide (linesB (flatB l) = l) = decide (l = linesB (flatB l)) from decide_eq_decide.2 eq_comm, beq_self_eq_true]
    exact Ev.now _
end Go.Proofs.Ytplclofakoffmaa.Pr
