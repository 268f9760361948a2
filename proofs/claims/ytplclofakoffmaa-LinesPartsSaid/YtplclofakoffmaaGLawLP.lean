/-
LinesParts answers true: the plain part.
-/
import Derived.Test.YtplclofakoffmaaGAwakeL
import Derived.Test.YtplclofakoffmaaD5a
namespace Go.Proofs.Ytplclofakoffmaa.Pr
open Go.RowKit Go.Proofs.YtplclofakoffmaaW.PrintWords Go.Proofs.YtplclofakoffmaaW.PrintLast Go.Proofs.YtplclofakoffmaaW.PrintMore
set_option linter.unusedVariables false
set_option linter.unusedSimpArgs false
theorem data_append (a b : ByteArray) : (a ++ b).data.toList = a.data.toList ++ b.data.toList := by simp [ByteArray.data_append]
theorem linesB_append (a b : ByteArray) (h : closedL a.data.toList = true) : linesB (a ++ b) = linesB a ++ linesB b := by
  rw [linesB_lns, linesB_lns, linesB_lns, data_append, lns_append _ _ h, List.map_append]
theorem linesB_length (s : ByteArray) : (linesB s).length = s.data.toList.count 10 + if closedL s.data.toList = true then 0 else 1 := by
  rw [linesB_lns, List.length_map, lns_len]
theorem closedL_append (a b : List UInt8) (h : b ≠ []) : closedL (a ++ b) = closedL b := by
  unfold closedL
  rw [decide_eq_false h, decide_eq_false (by simp [h]), List.getLast?_append]
  cases hb : b.getLast? with
  | none => exact absurd (List.getLast?_eq_none_iff.1 hb) h
  | some x => rfl
theorem parts_sum {x1 x2 x3 cs ct k : Nat} (n1 : x1 = cs + 1) (n2 : x2 = ct + k) (n3 : x3 = cs + ct + k) (h1 : x1 ≤ 200) (h2 : x2 ≤ 200) : ((x3 : Int) == wrap64 (wrap64 ((x1 : Int) + (x2 : Int)) - 1)) = true := by
  rw [beq_iff_eq]; unfold wrap64; omega
theorem parts_one {x1 x3 : Nat} (h : x3 = x1) (h1 : x1 ≤ 200) : ((x3 : Int) == wrap64 ((x1 : Int) + ((0 : Nat) : Int))) = true := by
  rw [beq_iff_eq]; unfold wrap64; omega
theorem LinesParts_pure : grapevinelaw03_LinesParts.Pure := by
  intro s t hs ht
  refine Ev.rounds ?_
  unfold grapevinelaw03_LinesParts.f
  have j0t : Ev (fun k => grapevinelaw03_LinesParts.j0 k s t true true) true := by
    refine Ev.step (fun _ => grapevinelaw03_LinesParts.j0.eq_2 ..) ?_
    exact Ev.now _
  refine Ev.bind awake_ev ?_
  by_cases c1 : (s.size : Int) > 200
  · simp only [if_pos c1]
    exact j0t
  simp only [if_neg c1]
  by_cases c2 : (t.size : Int) > 200
  · rw [decide_eq_true c2]
    exact j0t
  rw [decide_eq_false c2]
  have ha : (s ++ t).size = s.size + t.size := ByteArray.size_append
  have l1 := linesB_len s
  have l2 := linesB_len t
  have l3 := linesB_len (s ++ t)
  refine Ev.step (fun _ => grapevinelaw03_LinesParts.j0.eq_2 ..) ?_
  simp only [Bool.false_eq_true, if_false, if_true]
  refine Ev.bind (Ev.none_of fun _ => Closed_some s (by omega)) ?_
  refine Ev.bind (Ev.none_of fun _ => Split_some s (by omega)) ?_
  refine Ev.bind (Ev.none_of fun _ => Split_some t (by omega)) ?_
  simp only [if_pos (show s.size + t.size ≤ 9223372036854775807 by omega)]
  refine Ev.bind (Ev.none_of fun _ => Split_some (s ++ t) (by omega)) ?_
  cases hc : closedL s.data.toList with
  | true =>
    simp only [if_true, Option.bind_some, List.length_nil, List.nil_append, if_pos (show 0 + (linesB s).length < 8796093022208 by omega), if_pos (show (linesB s).length + (linesB t).length < 8796093022208 by omega)]
    have hT := Texts_ev (linesB (s ++ t)) (linesB s ++ linesB t) (by omega)
    rw [decide_eq_true (linesB_append s t hc)] at hT
    refine Ev.bind hT ?_
    simp only [if_true]
    refine Ev.bind (Ev.none_of fun _ => Count_some (s ++ t) (by omega)) ?_
    refine Ev.bind (Ev.none_of fun _ => Count_some s (by omega)) ?_
    refine Ev.bind (Ev.none_of fun _ => Count_some t (by omega)) ?_
    have e : ((linesB (s ++ t)).length : Int) = wrap64 (((linesB s).length : Int) + ((linesB t).length : Int)) := by
      rw [linesB_append s t hc, List.length_append]; unfold wrap64; omega
    simp only [if_pos e]
    refine Ev.bind (Ev.none_of fun _ => Binary_some (s ++ t)) ?_
    refine Ev.bind (Ev.none_of fun _ => Binary_some s) ?_
    have hm : (0 ∈ (s ++ t).data.toList) ↔ (0 ∈ s.data.toList ∨ 0 ∈ t.data.toList) := by rw [data_append, List.mem_append]
    by_cases h0 : 0 ∈ s.data.toList
    · rw [decide_eq_true h0, decide_eq_true (hm.2 (.inl h0))]
      exact Ev.now _
    · rw [decide_eq_false h0]
      simp only [Bool.false_eq_true, if_false]
      refine Ev.bind (Ev.none_of fun _ => Binary_some t) ?_
      rw [show decide (0 ∈ (s ++ t).data.toList) = decide (0 ∈ t.data.toList) from decide_eq_decide.2 (hm.trans ⟨fun h => h.resolve_left h0, .inr⟩), beq_self_eq_true]
      exact Ev.now _
  | false =>
    simp only [Bool.false_eq_true, if_false]
    have n1 := linesB_length s
    have n2 := linesB_length t
    have n3 := linesB_length (s ++ t)
    rw [data_append, List.count_append] at n3
    rw [if_neg (by rw [hc]; simp)] at n1
    by_cases h0 : t.size = 0
    · simp only [if_pos (str_nil t h0), if_true]
      have h1 : t = ByteArray.empty := ByteArray.size_eq_zero_iff.1 h0
      have h2 : (linesB t).length = 0 := by rw [h1, linesB_nil ByteArray.empty rfl]; rfl
      rw [h2, parts_one (show (linesB (s ++ t)).length = (linesB s).length by rw [h1, ByteArray.append_empty]) (by omega)]
      exact Ev.now _
    · simp only [if_neg (str_ne t h0), if_true]
      have hne : t.data.toList ≠ [] := fun e => h0 (congrArg List.length e)
      rw [closedL_append _ _ hne] at n3
      rw [parts_sum n1 n2 n3 (by omega) (by omega)]
      exact Ev.now _
end Go.Proofs.Ytplclofakoffmaa.Pr
