/-
The law DiffPlays answers true: the plain part.
-/
import Derived.Test.YtebfopcihjadpaaGSpecQ
import Derived.Test.YtebfopcihjadpaaD9a
namespace Go.Proofs.Ytebfopcihjadpaa.Pr
open Go.RowKit Go.Proofs.YtebfopcihjadpaaW.PrintWords Go.Proofs.YtebfopcihjadpaaW.PrintLast Go.Proofs.YtebfopcihjadpaaW.PrintMore
set_option linter.unusedVariables false
set_option linter.unusedSimpArgs false
theorem turnFrom_ok40 (a : List ByteArray) (ha : a.length ≤ 1099511627776) : ∀ (l : List Ed) (more : Int), (turnFrom a more l).length = l.length ∧ ∀ e ∈ turnFrom a more l, e.f2.length ≤ 1099511627776
  | [], more => ⟨rfl, by simp [turnFrom]⟩
  | e :: l, more => by
    have ih := turnFrom_ok40 a ha l (more + ((e.f2.length : Int) - e.f1))
    rw [turnFrom]
    refine ⟨by rw [List.length_cons, List.length_cons, ih.1], fun g hg => ?_⟩
    rcases List.mem_cons.1 hg with rfl | hg
    · simp only [List.length_drop, List.length_take]; omega
    · exact ih.2 g hg
theorem DiffPlays_pure (a : List ByteArray) (l : List Ed) (ha : a.length * 16 ≤ 140737488351232) (hl : l.length * 40 ≤ 140737488351232) : ∃ k, grapevinelaw04_DiffPlays.f k a l = some true := by
  refine Ev.rounds ?_
  unfold grapevinelaw04_DiffPlays.f
  have j0t : Ev (fun k => grapevinelaw04_DiffPlays.j0 k a l true true) true := by
    refine Ev.step (fun _ => grapevinelaw04_DiffPlays.j0.eq_2 ..) ?_
    exact Ev.now _
  refine Ev.bind (Ev.none_of fun _ => rfl) ?_
  refine Ev.bind (Few_ev l (by omega)) ?_
  by_cases c : (∀ e ∈ l, e.f0 ≤ 1048576 ∧ e.f1 ≤ 1048576 ∧ e.f2.length ≤ 20) ∧ l.length ≤ 20
  · simp only [decide_eq_true c, if_true]
    by_cases c2 : (a.length : Int) > 24
    · rw [decide_eq_true c2]
      exact j0t
    rw [decide_eq_false c2]
    refine Ev.step (fun _ => grapevinelaw04_DiffPlays.j0.eq_2 ..) ?_
    simp only [Bool.false_eq_true, if_false, if_true]
    have hi := few_ins c.1
    have hn := c.2
    have hA : a.length ≤ 1099511627776 := by omega
    refine Ev.bind (Play_ev a l hA (by omega) (by omega)) (Ev.bind (RPlay_ev a l hA (by omega) (by omega)) ?_)
    simp only [beq_self_eq_true, if_true]
    have hlen : (if okFrom 0 (a.length : Int) l = true then (playFrom a 0 l, true) else ([], false)).1.length ≤ 4611686018427387904 := by
      by_cases h : okFrom 0 (a.length : Int) l = true
      · rw [if_pos h]
        have h1 := playFrom_R a l 0 0 (by omega) h
        have h2 := length_playR l a ((0 : Nat) : Int) 0 (by omega) (by simpa using h)
        rw [List.drop_zero] at h1
        show (playFrom a 0 l).length ≤ _
        rw [h1]
        omega
      · rw [if_neg h]
        exact Nat.zero_le _
    have ht := Texts_ev _ (if okFrom 0 (a.length : Int) l = true then (playFrom a 0 l, true) else ([], false)).1 hlen
    rw [decide_eq_true rfl] at ht
    refine Ev.bind ht ?_
    simp only [if_true]
    refine Ev.bind (Turn_ev a l hA (by omega) (by omega)) (Ev.bind (RTurn_ev a l hA (by omega) (by omega)) ?_)
    have hok : Ok40 (if okFrom 0 (a.length : Int) l = true then turnFrom a 0 l else []) := by
      by_cases h : okFrom 0 (a.length : Int) l = true
      · rw [if_pos h]
        have := turnFrom_ok40 a hA l 0
        exact ⟨by omega, this.2⟩
      · rw [if_neg h]
        exact ⟨Nat.zero_le _, by simp⟩
    refine Ev.bind (Ev.none_of fun _ => Same_ev _ _ hok) ?_
    rw [decide_eq_true rfl]
    exact Ev.now _
  · simp only [decide_eq_false c, Bool.false_eq_true, if_false]
    exact j0t
end Go.Proofs.Ytebfopcihjadpaa.Pr
