/-
The laws DiffBack, DiffTurns and DiffChain answer true: the plain part.
-/
import Derived.Test.YtebfopcihjadpaaGMathL
import Derived.Test.YtebfopcihjadpaaGDiff
import Derived.Test.YtebfopcihjadpaaD9b
import Derived.Test.YtebfopcihjadpaaD11a
import Derived.Test.YtebfopcihjadpaaD11b
namespace Go.Proofs.Ytebfopcihjadpaa.Pr
open Go.RowKit Go.Proofs.YtebfopcihjadpaaW.PrintWords Go.Proofs.YtebfopcihjadpaaW.PrintLast Go.Proofs.YtebfopcihjadpaaW.PrintMore
set_option linter.unusedVariables false
set_option linter.unusedSimpArgs false
theorem len_le_size : ∀ (l : List Ed) (fr many : Int), okFrom fr many l = true → (l.length : Int) ≤ sizeE l
  | [], fr, many, h => by simp [sizeE]
  | e :: l, fr, many, h => by
    obtain ⟨c1, c2, c3, c4, c5, h'⟩ := okFrom_cons h
    have ih := len_le_size l _ _ h'
    simp only [sizeE, List.length_cons]
    have : e.f1 = 0 → e.f2.length ≠ 0 := fun h0 h1 => c5 ⟨h0, List.eq_nil_of_length_eq_zero h1⟩
    push_cast
    omega
theorem small_mul {m n k : Nat} (h1 : m ≤ k) (h2 : n ≤ k) (hk : k ≤ 40) : m * n ≤ 65536 := by
  have := Nat.mul_le_mul h1 h2
  have := Nat.mul_le_mul hk hk
  omega
theorem Diff_some (a b : List ByteArray) (h1 : a.length ≤ 4096) (h2 : b.length ≤ 4096) : diff_Diff.f a b = some (between a b) := by
  rw [diff_Diff.f, if_pos (by omega)]
theorem DiffBack_pure (a b : List ByteArray) (ha : a.length * 16 ≤ 140737488351232) (hb : b.length * 16 ≤ 140737488351232) : ∃ k, grapevinelaw04_DiffBack.f k a b = some true := by
  refine Ev.rounds ?_
  unfold grapevinelaw04_DiffBack.f
  have j0t : Ev (fun k => grapevinelaw04_DiffBack.j0 k a b true true) true := by
    refine Ev.step (fun _ => grapevinelaw04_DiffBack.j0.eq_2 ..) ?_
    exact Ev.now _
  refine Ev.bind (Ev.none_of fun _ => rfl) ?_
  by_cases c1 : (a.length : Int) > 40
  · simp only [if_pos c1]
    exact j0t
  simp only [if_neg c1]
  by_cases c2 : (b.length : Int) > 40
  · rw [decide_eq_true c2]
    exact j0t
  rw [decide_eq_false c2]
  refine Ev.step (fun _ => grapevinelaw04_DiffBack.j0.eq_2 ..) ?_
  simp only [Bool.false_eq_true, if_false, if_true]
  obtain ⟨o1, p1⟩ := between_ok a b
  have hs := between_size a b (small_mul (k := 40) (by omega) (by omega) (by omega))
  have hl := len_le_size _ _ _ o1
  have hi := insE_le (between a b)
  obtain ⟨o2, p2, s2⟩ := play_turn a (between a b) o1
  rw [p1] at o2 p2
  have hl2 := len_le_size _ _ _ o2
  have hi2 := insE_le (turnFrom a 0 (between a b))
  have ep := Play_ev a (between a b) (by omega) (by omega) (by omega)
  rw [if_pos o1, p1] at ep
  have et := Turn_ev a (between a b) (by omega) (by omega) (by omega)
  rw [if_pos o1] at et
  have eq := Play_ev b (turnFrom a 0 (between a b)) (by omega) (by omega) (by omega)
  rw [if_pos o2, p2] at eq
  have er := Right_ev (a.length : Int) (between a b) (by omega) (by omega) (by omega)
  rw [o1] at er
  have er2 := Right_ev (b.length : Int) (turnFrom a 0 (between a b)) (by omega) (by omega) (by omega)
  rw [o2] at er2
  refine Ev.bind (Ev.none_of fun _ => Diff_some a b (by omega) (by omega)) (Ev.bind ep (Ev.bind et (Ev.bind eq ?_)))
  simp only [if_true]
  have ex := Texts_ev b b (by omega)
  have ey := Texts_ev a a (by omega)
  rw [decide_eq_true rfl] at ex ey
  refine Ev.bind ex ?_
  simp only [if_true]
  refine Ev.bind ey ?_
  simp only [if_true]
  refine Ev.bind er ?_
  simp only [if_true]
  refine Ev.bind er2 ?_
  simp only [if_true]
  refine Ev.bind (Size_ev _ (by omega) (by omega)) (Ev.bind (Size_ev _ (by omega) (by omega)) ?_)
  rw [s2]
  simp only [beq_self_eq_true]
  exact Ev.now _
theorem tmod_even (x y z : Int) (h : x + 2 * y = z) (hx : 0 ≤ x) (hz : 0 ≤ z) : Int.tmod x 2 = Int.tmod z 2 := by
  rw [Int.tmod_eq_emod_of_nonneg hx, Int.tmod_eq_emod_of_nonneg hz]
  omega
theorem DiffTurns_pure (a b : List ByteArray) (ha : a.length * 16 ≤ 140737488351232) (hb : b.length * 16 ≤ 140737488351232) : ∃ k, grapevinelaw04_DiffTurns.f k a b = some true := by
  refine Ev.rounds ?_
  unfold grapevinelaw04_DiffTurns.f
  have j0t : Ev (fun k => grapevinelaw04_DiffTurns.j0 k a b true true) true := by
    refine Ev.step (fun _ => grapevinelaw04_DiffTurns.j0.eq_2 ..) ?_
    exact Ev.now _
  refine Ev.bind (Ev.none_of fun _ => rfl) ?_
  by_cases c1 : (a.length : Int) > 40
  · simp only [if_pos c1]
    exact j0t
  simp only [if_neg c1]
  by_cases c2 : (b.length : Int) > 40
  · rw [decide_eq_true c2]
    exact j0t
  rw [decide_eq_false c2]
  refine Ev.step (fun _ => grapevinelaw04_DiffTurns.j0.eq_2 ..) ?_
  simp only [Bool.false_eq_true, if_false, if_true]
  have s1 := between_size a b (small_mul (k := 40) (by omega) (by omega) (by omega))
  have s2 := between_size b a (small_mul (k := 40) (by omega) (by omega) (by omega))
  rw [lcs_comm b a] at s2
  have l1 := len_le_size _ _ _ (between_ok a b).1
  have l2 := len_le_size _ _ _ (between_ok b a).1
  refine Ev.bind (Ev.none_of fun _ => Diff_some a b (by omega) (by omega)) (Ev.bind (Ev.none_of fun _ => Diff_some b a (by omega) (by omega)) ?_)
  refine Ev.bind (Size_ev _ (by omega) (by omega)) (Ev.bind (Size_ev _ (by omega) (by omega)) ?_)
  simp only [if_pos (show sizeE (between a b) = sizeE (between b a) by omega)]
  refine Ev.bind (Size_ev _ (by omega) (by omega)) ?_
  rw [w_in (by omega) (by omega), tmod_even _ _ _ s1 (sizeE_nonneg _) (by omega)]
  simp only [beq_self_eq_true]
  exact Ev.now _
theorem DiffChain_pure (a b c : List ByteArray) (ha : a.length * 16 ≤ 140737488351232) (hb : b.length * 16 ≤ 140737488351232) (hc : c.length * 16 ≤ 140737488351232) : ∃ k, grapevinelaw04_DiffChain.f k a b c = some true := by
  refine Ev.rounds ?_
  unfold grapevinelaw04_DiffChain.f
  have j0t : Ev (fun k => grapevinelaw04_DiffChain.j0 k a b c true true) true := by
    refine Ev.step (fun _ => grapevinelaw04_DiffChain.j0.eq_2 ..) ?_
    exact Ev.now _
  refine Ev.bind (Ev.none_of fun _ => rfl) ?_
  by_cases c1 : (a.length : Int) > 30
  · simp only [if_pos c1]
    exact j0t
  simp only [if_neg c1]
  by_cases c2 : (b.length : Int) > 30
  · simp only [if_pos c2]
    exact j0t
  simp only [if_neg c2]
  by_cases c3 : (c.length : Int) > 30
  · rw [decide_eq_true c3]
    exact j0t
  rw [decide_eq_false c3]
  refine Ev.step (fun _ => grapevinelaw04_DiffChain.j0.eq_2 ..) ?_
  simp only [Bool.false_eq_true, if_false, if_true]
  have s1 := between_size a c (small_mul (k := 30) (by omega) (by omega) (by omega))
  have s2 := between_size a b (small_mul (k := 30) (by omega) (by omega) (by omega))
  have s3 := between_size b c (small_mul (k := 30) (by omega) (by omega) (by omega))
  have l1 := len_le_size _ _ _ (between_ok a c).1
  have l2 := len_le_size _ _ _ (between_ok a b).1
  have l3 := len_le_size _ _ _ (between_ok b c).1
  have hch := lcs_chain a b c
  refine Ev.bind (Ev.none_of fun _ => Diff_some a c (by omega) (by omega)) (Ev.bind (Size_ev _ (by omega) (by omega)) ?_)
  refine Ev.bind (Ev.none_of fun _ => Diff_some a b (by omega) (by omega)) (Ev.bind (Size_ev _ (by omega) (by omega)) ?_)
  refine Ev.bind (Ev.none_of fun _ => Diff_some b c (by omega) (by omega)) (Ev.bind (Size_ev _ (by omega) (by omega)) ?_)
  rw [w_in (by omega) (by omega), decide_eq_true (by omega)]
  exact Ev.now _
end Go.Proofs.Ytebfopcihjadpaa.Pr
