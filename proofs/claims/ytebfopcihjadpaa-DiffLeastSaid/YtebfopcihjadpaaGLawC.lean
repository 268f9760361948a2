/-
The law DiffLeast answers true: the plain part.
-/
import Derived.Test.YtebfopcihjadpaaGSpecC
import Derived.Test.YtebfopcihjadpaaGLawB
import Derived.Test.YtebfopcihjadpaaD9c
namespace Go.Proofs.Ytebfopcihjadpaa.Pr
open Go.RowKit Go.Proofs.YtebfopcihjadpaaW.PrintWords Go.Proofs.YtebfopcihjadpaaW.PrintLast Go.Proofs.YtebfopcihjadpaaW.PrintMore
set_option linter.unusedVariables false
set_option linter.unusedSimpArgs false
theorem DiffLeast_pure (a b : List ByteArray) (ha : a.length * 16 ≤ 140737488351232) (hb : b.length * 16 ≤ 140737488351232) : ∃ k, grapevinelaw04_DiffLeast.f k a b = some true := by
  refine Ev.rounds ?_
  unfold grapevinelaw04_DiffLeast.f
  have j0t : Ev (fun k => grapevinelaw04_DiffLeast.j0 k a b true true) true := by
    refine Ev.step (fun _ => grapevinelaw04_DiffLeast.j0.eq_2 ..) ?_
    exact Ev.now _
  refine Ev.bind (Ev.none_of fun _ => rfl) ?_
  by_cases c1 : (a.length : Int) > 24
  · simp only [if_pos c1]
    exact j0t
  simp only [if_neg c1]
  by_cases c2 : (b.length : Int) > 24
  · rw [decide_eq_true c2]
    exact j0t
  rw [decide_eq_false c2]
  refine Ev.step (fun _ => grapevinelaw04_DiffLeast.j0.eq_2 ..) ?_
  simp only [Bool.false_eq_true, if_false, if_true]
  have hs := between_size a b (small_mul (k := 24) (by omega) (by omega) (by omega))
  have hl := len_le_size _ _ _ (between_ok a b).1
  have hle := lcs_le a b
  refine Ev.bind (Ev.none_of fun _ => Diff_some a b (by omega) (by omega)) (Ev.bind (Common_ev a b (by omega) (by omega)) (Ev.bind (Size_ev _ (by omega) (by omega)) ?_))
  rw [w_in (x := (a.length : Int) + b.length) (by omega) (by omega), w_in (x := 2 * (lcsLen a b : Int)) (by omega) (by omega), w_in (by omega) (by omega)]
  simp only [if_pos (show sizeE (between a b) = (a.length : Int) + b.length - 2 * (lcsLen a b : Int) by omega)]
  refine Ev.bind (Texts_ev a b (by omega)) ?_
  have e : (((between a b).length : Int) == 0) = decide (a = b) := by
    rw [Bool.eq_iff_iff, beq_iff_eq, decide_eq_true_iff, ← between_nil]
    rw [show (((between a b).length : Int) = 0) = ((between a b).length = 0) from propext (by omega), List.length_eq_zero_iff]
  rw [e]
  simp only [beq_self_eq_true, if_true]
  refine Ev.bind (Ev.none_of fun _ => Diff_some a a (by omega) (by omega)) ?_
  rw [between_self]
  exact Ev.now _
end Go.Proofs.Ytebfopcihjadpaa.Pr
