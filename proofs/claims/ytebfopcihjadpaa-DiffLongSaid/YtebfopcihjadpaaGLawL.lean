/-
The law DiffLong answers true: the plain part.
-/
import Derived.Test.YtebfopcihjadpaaGLawB
import Derived.Test.YtebfopcihjadpaaGMathB
import Derived.Test.YtebfopcihjadpaaD5
namespace Go.Proofs.Ytebfopcihjadpaa.Pr
open Go.RowKit Go.Proofs.YtebfopcihjadpaaW.PrintWords Go.Proofs.YtebfopcihjadpaaW.PrintLast Go.Proofs.YtebfopcihjadpaaW.PrintMore
set_option linter.unusedVariables false
set_option linter.unusedSimpArgs false
def lineZ (x y : ByteArray) : ByteArray := (x ++ y) ++ (⟨#[61]⟩ : ByteArray)
def lineAt (N : Nat) (z v : ByteArray) (n j : Nat) : ByteArray := if j < n ∨ n + N ≤ j then z else v
def linesTo (N : Nat) (z v : ByteArray) (n i : Nat) : List ByteArray := (List.range i).map (lineAt N z v n)
theorem linesTo_succ (N : Nat) (z v : ByteArray) (n i : Nat) : linesTo N z v n (i + 1) = linesTo N z v n i ++ [lineAt N z v n i] := by simp [linesTo, List.range_succ]
theorem linesTo_len (N : Nat) (z v : ByteArray) (n i : Nat) : (linesTo N z v n i).length = i := by simp [linesTo]
theorem linesTo_small (N : Nat) (z v : ByteArray) (n i : Nat) (h : i ≤ 4096) : (linesTo N z v n i).length < 8796093022208 := by
  have e := linesTo_len N z v n i
  generalize (linesTo N z v n i).length = q at e ⊢
  omega
theorem sub_succ_eq {T i d : Nat} (h : T - i = d + 1) : T - (i + 1) = d ∧ i < T := by omega
theorem linesTo_all (N : Nat) (z v : ByteArray) (n e : Nat) : linesTo N z v n (n + (N + e)) = List.replicate n z ++ (List.replicate N v ++ List.replicate e z) := by
  apply List.ext_getElem
  · simp [linesTo]
  · intro j h1 h2
    simp only [linesTo, List.getElem_map, List.getElem_range, List.getElem_append, List.length_replicate, List.getElem_replicate, lineAt]
    by_cases c : j < n
    · simp [c]
    · rw [dif_neg c]
      by_cases c2 : j - n < N
      · rw [dif_pos c2, if_neg (by omega)]
      · rw [dif_neg c2, if_pos (by omega)]
theorem w_long (N n e : Nat) (h : N = 300) (hn : n ≤ 10) (he : e ≤ 10) : wrap64 (wrap64 (300 + (n : Int)) + (e : Int)) = ((n + (N + e) : Nat) : Int) := by
  rw [w_in (x := 300 + (n : Int)) (by omega) (by omega), w_in (by omega) (by omega)]
  push_cast
  omega
theorem w_300 (N n : Nat) (h : N = 300) (hn : n ≤ 10) : wrap64 ((n : Int) + 300) = ((n + N : Nat) : Int) := by
  rw [w_in (by omega) (by omega)]
  push_cast
  omega
theorem DiffLong_l0 (x y : ByteArray) (hx : x.size ≤ 140737488351232) (hy : y.size ≤ 140737488351232) (a3 : Int) (N n e T : Nat) (hN : N = 300) (hn : n ≤ 10) (he : e ≤ 10) (hT : T = n + (N + e)) (h3 : wrap64 (Int.tmod a3 11) = (e : Int))
    (fin : Ev (fun k => grapevinelaw04_DiffLong.l0 k x y a3 true (linesTo N (lineZ x y) x n T) (linesTo N (lineZ x y) y n T) (n : Int) (T : Int)) true) :
    ∀ (d i : Nat), T - i = d → i ≤ T → Ev (fun k => grapevinelaw04_DiffLong.l0 k x y a3 true (linesTo N (lineZ x y) x n i) (linesTo N (lineZ x y) y n i) (n : Int) (i : Int)) true := by
  have hw : wrap64 (wrap64 (300 + (n : Int)) + wrap64 (Int.tmod a3 11)) = (T : Int) := by rw [h3, hT]; exact w_long N n e hN hn he
  have hw2 := w_300 N n hN hn
  have hs1 : x.size + y.size ≤ 9223372036854775807 := by omega
  have hs2 : (x ++ y).size + 1 ≤ 9223372036854775807 := by rw [ByteArray.size_append]; omega
  have HS := Aside0.mk (And.intro hs1 hs2)
  clear hs1 hs2 hx hy
  have hTs : T ≤ 4096 := by omega
  generalize hM : n + N = M at hw2
  have hlA : ∀ v i, lineAt N (lineZ x y) v n i = if i < n ∨ M ≤ i then lineZ x y else v := fun v i => by rw [lineAt, hM]
  clear h3 hT hN
  intro d
  induction d with
  | zero =>
    intro i hd hi
    rw [show i = T by omega]
    exact fin
  | succ d ih =>
    intro i hd hi
    refine Ev.step (fun _ => grapevinelaw04_DiffLong.l0.eq_2 ..) ?_
    have hi' : i < T := (sub_succ_eq hd).2
    have hw3 := w_succ hi' (Nat.le_trans hTs (by decide))
    have hl1 := Aside0.mk (linesTo_small N (lineZ x y) x n i (Nat.le_trans hi hTs))
    have hl2 := Aside0.mk (linesTo_small N (lineZ x y) y n i (Nat.le_trans hi hTs))
    have h := ih (i + 1) (sub_succ_eq hd).1 hi'
    clear ih fin hd
    rw [linesTo_succ, linesTo_succ, hlA, hlA] at h
    simp only [hw, hw2, if_pos (show (i : Int) < (T : Int) by omega)]
    generalize linesTo N (lineZ x y) x n i = A at h hl1 ⊢
    generalize linesTo N (lineZ x y) y n i = B at h hl2 ⊢
    have hout : i < n ∨ M ≤ i → Ev (fun k => grapevinelaw04_DiffLong.j1 k x y a3 true A B (n : Int) (i : Int) y true) true := fun c => by
      refine Ev.step (fun _ => grapevinelaw04_DiffLong.j1.eq_2 ..) ?_
      rw [if_pos c, if_pos c] at h
      simp only [if_true, if_pos HS.out.1, if_pos HS.out.2, if_pos hl1.out, if_pos hl2.out, Option.bind_some, hw2, hw3]
      by_cases c1 : i < n
      · simp only [if_pos (show (i : Int) < (n : Int) by omega)]
        exact h
      · simp only [if_neg (show ¬ (i : Int) < (n : Int) by omega), if_pos (show (i : Int) ≥ (M : Int) by omega)]
        exact h
    by_cases c1 : i < n
    · simp only [if_pos (show (i : Int) < (n : Int) by omega)]
      exact hout (.inl c1)
    simp only [if_neg (show ¬ (i : Int) < (n : Int) by omega)]
    by_cases c2 : M ≤ i
    · rw [decide_eq_true (show (i : Int) ≥ (M : Int) by omega)]
      exact hout (.inr c2)
    rw [decide_eq_false (show ¬ (i : Int) ≥ (M : Int) by omega)]
    refine Ev.step (fun _ => grapevinelaw04_DiffLong.j1.eq_2 ..) ?_
    rw [if_neg (by omega), if_neg (by omega)] at h
    simp only [Bool.false_eq_true, if_false, if_pos hl1.out, if_pos hl2.out, Option.bind_some, hw2, hw3, if_neg (show ¬ (i : Int) < (n : Int) by omega), if_neg (show ¬ (i : Int) ≥ (M : Int) by omega)]
    exact h
theorem long_between (x y z : ByteArray) (h : x ≠ y) (n e N : Nat) (hN : 65536 < N * N) : between (List.replicate n z ++ (List.replicate N x ++ List.replicate e z)) (List.replicate n z ++ (List.replicate N y ++ List.replicate e z)) = [⟨(n : Int), (N : Int), List.replicate N y⟩] := by
  obtain ⟨M, rfl⟩ : ∃ M, N = M + 1 := ⟨N - 1, by cases N with
    | zero => omega
    | succ N => rfl⟩
  have hr : ∀ v : ByteArray, List.replicate (M + 1) v = v :: List.replicate M v := fun v => rfl
  rw [between_eq _ _ _ _ (by rw [hr, hr, List.cons_append, List.cons_append]; exact common_ne h _ _) (by rw [List.reverse_replicate, List.reverse_replicate, hr, hr]; exact common_ne h _ _)]
  rw [midEdits, if_neg (by rw [hr]; simp), if_pos (.inr (.inr (by rw [List.length_replicate, List.length_replicate]; exact hN))), List.length_replicate, List.length_replicate]
theorem tmod_u8 {a : Int} (h : (Lit.int .u8 a).wf = true) : ∃ n : Nat, n ≤ 10 ∧ wrap64 (Int.tmod a 11) = (n : Int) := by
  have h1 : 0 ≤ a ∧ a ≤ 255 := by
    simp only [Lit.wf, Bool.and_eq_true, decide_eq_true_eq] at h
    have e1 : IntKind.u8.min = 0 := rfl
    have e2 : IntKind.u8.max = 255 := rfl
    omega
  refine ⟨(a % 11).toNat, by omega, ?_⟩
  rw [Int.tmod_eq_emod_of_nonneg h1.1, w_in (by omega) (by omega)]
  omega
set_option maxHeartbeats 1000000 in
theorem DiffLong_pure (x y : ByteArray) (a2 a3 : Int) (hx : x.size ≤ 140737488351232) (hy : y.size ≤ 140737488351232) (h2 : (Lit.int .u8 a2).wf = true) (h3 : (Lit.int .u8 a3).wf = true) : ∃ k, grapevinelaw04_DiffLong.f k x y a2 a3 = some true := by
  refine Ev.rounds ?_
  unfold grapevinelaw04_DiffLong.f
  refine Ev.bind (Ev.none_of fun _ => rfl) ?_
  simp only [toList_iff]
  by_cases hxy : x = y
  · simp only [if_pos hxy]
    exact Ev.now _
  simp only [if_neg hxy]
  obtain ⟨n, hn, en⟩ := tmod_u8 h2
  obtain ⟨e, he, ee⟩ := tmod_u8 h3
  rw [en]
  obtain ⟨N, hN⟩ : ∃ N : Nat, N = 300 := ⟨300, rfl⟩
  have hw : wrap64 (wrap64 (300 + (n : Int)) + wrap64 (Int.tmod a3 11)) = ((n + (N + e) : Nat) : Int) := by rw [ee]; exact w_long N n e hN hn he
  have hw2 := w_300 N n hN hn
  have hall1 := linesTo_all N (lineZ x y) x n e
  have hall2 := linesTo_all N (lineZ x y) y n e
  obtain ⟨T, hT⟩ : ∃ T, T = n + (N + e) := ⟨_, rfl⟩
  rw [← hT] at hw hall1 hall2
  have hTs : T ≤ 4096 := by omega
  refine DiffLong_l0 x y hx hy a3 N n e T hN hn he hT ee ?_ _ 0 rfl (by omega)
  refine Ev.step (fun _ => grapevinelaw04_DiffLong.l0.eq_2 ..) ?_
  have hs1 : x.size + y.size ≤ 9223372036854775807 := by omega
  have hs2 : (x ++ y).size + 1 ≤ 9223372036854775807 := by rw [ByteArray.size_append]; omega
  simp only [hw, if_neg (Int.lt_irrefl (T : Int)), if_pos hs1, if_pos hs2, toList_iff]
  clear hs1 hs2 hx hy
  have j2t : ∀ A B, Ev (fun k => grapevinelaw04_DiffLong.j2 k true A B (n : Int) true) true := fun A B => by
    refine Ev.step (fun _ => grapevinelaw04_DiffLong.j2.eq_2 ..) ?_
    exact Ev.now _
  by_cases c1 : x = (x ++ y) ++ (⟨#[61]⟩ : ByteArray)
  · simp only [if_pos c1]
    exact j2t _ _
  simp only [if_neg c1]
  by_cases c2 : (y.toList == ((x ++ y) ++ (⟨#[61]⟩ : ByteArray)).toList) = true
  · rw [c2]
    exact j2t _ _
  rw [Bool.eq_false_iff.2 c2]
  refine Ev.step (fun _ => grapevinelaw04_DiffLong.j2.eq_2 ..) ?_
  simp only [Bool.false_eq_true, if_false]
  obtain ⟨R, hR⟩ : ∃ R, R = List.replicate N y := ⟨_, rfl⟩
  have hR2 := Aside0.mk (show R.length ≤ 4611686018427387904 by rw [hR, List.length_replicate]; omega)
  have hd : diff_Diff.f (linesTo N (lineZ x y) x n T) (linesTo N (lineZ x y) y n T) = some [⟨(n : Int), 300, R⟩] := by
    rw [Diff_some _ _ (by rw [linesTo_len]; omega) (by rw [linesTo_len]; omega), hall1, hall2, long_between x y _ hxy _ _ _ (by rw [hN]; omega), ← hR]
    rw [show (N : Int) = 300 by omega]
  have hB : ((linesTo N (lineZ x y) y n T).take (n + N)).drop n = R := by
    rw [hall2, ← List.append_assoc, List.take_left' (by simp), List.drop_left' (by simp), hR]
  have hBl := Aside0.mk (linesTo_len N (lineZ x y) y n T)
  generalize linesTo N (lineZ x y) x n T = A at hd ⊢
  generalize linesTo N (lineZ x y) y n T = B at hd hB hBl ⊢
  refine Ev.bind (Ev.none_of fun _ => hd) ?_
  have r0 : rd_T29 [(⟨(n : Int), 300, R⟩ : Ed)] 0 = ⟨(n : Int), 300, R⟩ := rfl
  generalize hM : n + N = M at hw2 hB
  simp only [if_true, List.length_singleton, r0, hw2, hBl.out, Int.toNat_natCast, hB, if_pos (show ((1 : Nat) : Int) = 1 from rfl), if_pos (show (0 : Int) < ((1 : Nat) : Int) by omega),
    if_pos (show 0 ≤ (n : Int) by omega), if_pos (show (n : Int) ≤ (M : Int) by omega), if_pos (show (M : Int) ≤ (T : Int) by omega)]
  have ht := Texts_ev R R hR2.out
  rw [decide_eq_true rfl] at ht
  exact Ev.bind ht (Ev.now _)
end Go.Proofs.Ytebfopcihjadpaa.Pr
