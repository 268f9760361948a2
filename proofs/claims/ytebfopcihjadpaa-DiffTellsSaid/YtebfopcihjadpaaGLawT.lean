/-
The law DiffTells answers true: the plain part.
-/
import Derived.Test.YtebfopcihjadpaaGLawB
import Derived.Test.YtebfopcihjadpaaGSpecC
import Derived.Test.YtebfopcihjadpaaD4
namespace Go.Proofs.Ytebfopcihjadpaa.Pr
open Go.RowKit Go.Proofs.YtebfopcihjadpaaW.PrintWords Go.Proofs.YtebfopcihjadpaaW.PrintLast Go.Proofs.YtebfopcihjadpaaW.PrintMore
set_option linter.unusedVariables false
set_option linter.unusedSimpArgs false
theorem insE_mem : ∀ (m : List Ed) (e : Ed), e ∈ m → e.f2.length ≤ insE m
  | x :: m, e, h => by
    rcases List.mem_cons.1 h with rfl | h
    · simp only [insE]; omega
    · have := insE_mem m e h; simp only [insE]; omega
theorem DiffTells_pure (a b : List ByteArray) (ha : a.length * 16 ≤ 140737488351232) (hb : b.length * 16 ≤ 140737488351232) : ∃ k, grapevinelaw04_DiffTells.f k a b = some true := by
  refine Ev.rounds ?_
  unfold grapevinelaw04_DiffTells.f
  have j0t : Ev (fun k => grapevinelaw04_DiffTells.j0 k a b true true) true := by
    refine Ev.step (fun _ => grapevinelaw04_DiffTells.j0.eq_2 ..) ?_
    exact Ev.now _
  refine Ev.bind (Ev.none_of fun _ => rfl) ?_
  by_cases c1 : (a.length : Int) > 24
  · simp only [if_pos c1]
    exact j0t
  simp only [if_neg c1]
  by_cases c2 : (b.length : Int) > 24
  · rw [decide_eq_true c2]
    exact j0t
  rw [decide_eq_false c2]
  refine Ev.step (fun _ => grapevinelaw04_DiffTells.j0.eq_2 ..) ?_
  simp only [Bool.false_eq_true, if_false, if_true]
  have hs := between_size a b (small_mul (k := 24) (by omega) (by omega) (by omega))
  have hl := len_le_size _ _ _ (between_ok a b).1
  have hok : Ok40 (between a b) := ⟨by omega, fun e he => by
    have h1 := insE_mem _ e he
    have h2 := insE_le (between a b)
    omega⟩
  refine Ev.bind (Ev.none_of fun _ => Diff_some a b (by omega) (by omega)) ?_
  refine Ev.bind (a := between a b) (Ev.none_of fun _ => by rw [grapevineref04_Diff.f, if_pos ⟨by omega, by omega⟩]) ?_
  refine Ev.bind (Ev.none_of fun _ => Same_ev _ _ hok) ?_
  simp only [decide_true]
  exact Ev.now _
end Go.Proofs.Ytebfopcihjadpaa.Pr
