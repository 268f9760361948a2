/-
LinesCounts answers true: the plain part.
-/
import Derived.Test.YtplclofakoffmaaGAwakeL
import Derived.Test.YtplclofakoffmaaD5b
namespace Go.Proofs.Ytplclofakoffmaa.Pr
open Go.RowKit Go.Proofs.YtplclofakoffmaaW.PrintWords Go.Proofs.YtplclofakoffmaaW.PrintLast Go.Proofs.YtplclofakoffmaaW.PrintMore
set_option linter.unusedVariables false
set_option linter.unusedSimpArgs false
theorem linesB_length (s : ByteArray) : (linesB s).length = s.data.toList.count 10 + if closedL s.data.toList = true then 0 else 1 := by
  rw [linesB_lns, List.length_map, lns_len]
theorem rightL_get (ls : List (List UInt8)) (h : rightL ls) : ∀ (i : Nat) (x : List UInt8), ls[i]? = some x → x ≠ [] ∧ (i + 1 < ls.length → x.getLast? = some 10) := by
  induction ls with
  | nil => intro i x hx; simp at hx
  | cons y ys ih =>
    obtain ⟨h1, h2, h3, h4⟩ := h
    intro i x hx
    cases i with
    | zero =>
      simp at hx
      subst hx
      exact ⟨h1, fun hl => h3 (by intro e; subst e; simp at hl)⟩
    | succ i =>
      simp at hx
      have := ih h4 i x hx
      exact ⟨this.1, fun hl => this.2 (by simpa using hl)⟩
theorem linesB_get (s : ByteArray) (i : Nat) (h : i < (linesB s).length) : (linesB s)[i].size ≠ 0 ∧ (i + 1 < (linesB s).length → closedL (linesB s)[i].data.toList = true) := by
  have hl : (lns s.data.toList).length = (linesB s).length := by rw [linesB_lns, List.length_map]
  have gen : ∀ (z : List ByteArray), z = (lns s.data.toList).map bs → ∀ (h : i < z.length), (lns s.data.toList)[i]? = some z[i].data.toList := by
    intro z hz h
    subst hz
    rw [List.length_map] at h
    rw [List.getElem?_eq_getElem h, List.getElem_map]; rfl
  have hx := gen _ (linesB_lns s) h
  obtain ⟨h1, h2⟩ := rightL_get _ (rightL_lns _) i _ hx
  refine ⟨fun e => h1 (List.eq_nil_of_length_eq_zero e), fun hi => ?_⟩
  unfold closedL
  rw [h2 (by omega)]; simp
theorem Counts_l1 (s : ByteArray) (hs : s.size ≤ 400) (n : Int) (hn : n = ((linesB s).length : Int)) (z : List ByteArray) (hz : z = linesB s) : ∀ d i, z.length - i = d → i ≤ z.length → Ev (fun k => grapevinelaw03_LinesCounts.l1 k s true n z (i : Int)) true := by
  have hlen := linesB_len s
  have hsz : ∀ x ∈ z, x.size ≤ s.size := by
    intro x hx
    subst hz
    have h1 : (linesB s).length = (lns s.data.toList).length := by rw [linesB_lns, List.length_map]
    rw [linesB_lns] at hx
    obtain ⟨y, hy, rfl⟩ := List.mem_map.1 hx
    have h2 := lns_flatten s.data.toList
    have h3 : y.length ≤ (lns s.data.toList).flatten.length := (List.sublist_flatten_of_mem hy).length_le
    rw [h2] at h3
    exact h3
  have hget : ∀ (i : Nat) (h : i < z.length), z[i].size ≠ 0 ∧ (i + 1 < z.length → closedL z[i].data.toList = true) := by
    subst hz
    exact linesB_get s
  have hzl : z.length ≤ 400 := by rw [hz]; omega
  have hnz : n = (z.length : Int) := by rw [hz]; exact hn
  intro d
  induction d with
  | zero =>
    intro i hd hi
    refine Ev.step (fun _ => grapevinelaw03_LinesCounts.l1.eq_2 ..) ?_
    simp only [if_neg (show ¬ (i : Int) < (z.length : Int) by omega), if_true]
    refine Ev.bind (Ev.none_of fun _ => Count_some s (by omega)) ?_
    simp only [if_pos hn.symm]
    rw [hnz, beq_self_eq_true]
    exact Ev.now _
  | succ d ih =>
    intro i hd hi
    refine Ev.step (fun _ => grapevinelaw03_LinesCounts.l1.eq_2 ..) ?_
    have h0 : i < z.length := by omega
    obtain ⟨g1, g2⟩ := hget i h0
    have g3 := hsz _ (List.getElem_mem h0)
    simp only [if_pos (show (i : Int) < (z.length : Int) by omega), if_pos (show 0 ≤ (i : Int) by omega), rdS_at h0, if_neg (show ¬ (z[i].size : Int) = 0 by omega), w_succ h0 (by omega)]
    have h := ih (i + 1) (by omega) (by omega)
    by_cases hl : i + 1 < z.length
    · simp only [if_pos (show ((i + 1 : Nat) : Int) < (z.length : Int) by omega)]
      refine Ev.bind (a := true) (Ev.none_of fun _ => by rw [Closed_some _ (by omega), g2 hl]) ?_
      simp only [if_true]
      exact h
    · simp only [if_neg (show ¬ ((i + 1 : Nat) : Int) < (z.length : Int) by omega)]
      exact h
theorem Counts_l0 (s : ByteArray) (hs : s.size ≤ 400) : ∀ d i, s.size - i = d → i ≤ s.size → Ev (fun k => grapevinelaw03_LinesCounts.l0 k s true ((s.data.toList.take i).count 10 : Int) (i : Int)) true := by
  have h3 : s.data.toList.length = s.size := rfl
  intro d
  induction d with
  | zero =>
    intro i hd hi
    refine Ev.step (fun _ => grapevinelaw03_LinesCounts.l0.eq_2 ..) ?_
    simp only [if_neg (show ¬ (i : Int) < (s.size : Int) by omega)]
    rw [List.take_of_length_le (by omega)]
    refine Ev.bind (Ev.none_of fun _ => Closed_some s (by omega)) ?_
    have hc := List.count_le_length (a := 10) (l := s.data.toList)
    have fin : ∀ n : Int, n = ((linesB s).length : Int) → Ev (fun k => grapevinelaw03_LinesCounts.j1 k s true n) true := by
      intro n hn
      refine Ev.step (fun _ => grapevinelaw03_LinesCounts.j1.eq_2 ..) ?_
      refine Ev.bind (Ev.none_of fun _ => Split_some s (by omega)) ?_
      exact Counts_l1 s hs n hn _ rfl _ 0 rfl (by omega)
    have hl := linesB_length s
    cases h : closedL s.data.toList with
    | true =>
      rw [if_pos h] at hl
      simp only [if_true]
      exact fin _ (by rw [hl]; rfl)
    | false =>
      rw [if_neg (by rw [h]; simp)] at hl
      simp only [Bool.false_eq_true, if_false]
      exact fin _ (by rw [hl]; unfold wrap64; omega)
  | succ d ih =>
    intro i hd hi
    refine Ev.step (fun _ => grapevinelaw03_LinesCounts.l0.eq_2 ..) ?_
    have h0 : i < s.size := by omega
    have hb := bt_eq s i h0 10
    rw [show ((10 : UInt8).toNat : Int) = 10 from rfl] at hb
    have hc := List.count_le_length (a := 10) (l := s.data.toList.take i)
    rw [List.length_take] at hc
    have ht : (s.data.toList.take (i + 1)).count 10 = (s.data.toList.take i).count 10 + if s.data.toList[i] = 10 then 1 else 0 := by
      rw [List.take_succ_eq_append_getElem (by omega), List.count_append, List.count_singleton]
      simp only [beq_iff_eq]
    simp only [if_pos (show (i : Int) < (s.size : Int) by omega), if_pos (show 0 ≤ (i : Int) by omega), hb, w_succ h0 (by omega)]
    have h := ih (i + 1) (by omega) (by omega)
    by_cases he : s.data.toList[i] = 10
    · simp only [if_pos he]
      rw [ht, if_pos he] at h
      rw [show wrap64 (((s.data.toList.take i).count 10 : Int) + 1) = (((s.data.toList.take i).count 10 + 1 : Nat) : Int) by unfold wrap64; omega]
      exact h
    · simp only [if_neg he]
      rw [ht, if_neg he] at h
      exact h
theorem LinesCounts_pure : grapevinelaw03_LinesCounts.Pure := by
  intro s hs
  refine Ev.rounds ?_
  unfold grapevinelaw03_LinesCounts.f
  refine Ev.bind awake_ev ?_
  by_cases c1 : (s.size : Int) > 400
  · simp only [if_pos c1]; exact Ev.now _
  simp only [if_neg c1]
  have h := Counts_l0 s (by omega) _ 0 rfl (by omega)
  simpa using h
end Go.Proofs.Ytplclofakoffmaa.Pr
