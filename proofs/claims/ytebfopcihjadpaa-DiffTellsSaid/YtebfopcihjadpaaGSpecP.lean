/-
What the printed Play and Turn of package diff compute, as plain Lean.
-/
import Derived.Test.YtebfopcihjadpaaGSpecA
import Derived.Test.YtebfopcihjadpaaGSlices
import Derived.Test.YtebfopcihjadpaaD2a
import Derived.Test.YtebfopcihjadpaaD2b
namespace Go.Proofs.Ytebfopcihjadpaa.Pr
open Go.RowKit Go.Proofs.YtebfopcihjadpaaW.PrintWords Go.Proofs.YtebfopcihjadpaaW.PrintLast Go.Proofs.YtebfopcihjadpaaW.PrintMore
set_option linter.unusedVariables false
set_option linter.unusedSimpArgs false
/-- How many lines come. -/
def insE : List Ed → Nat
  | [] => 0
  | e :: l => e.f2.length + insE l
/-- What lines become, from a place on. -/
def playFrom (a : List ByteArray) (t : Nat) : List Ed → List ByteArray
  | [] => a.drop t
  | e :: l => (a.take e.f0.toNat).drop t ++ e.f2 ++ playFrom a (e.f0 + e.f1).toNat l
/-- The edits back. -/
def turnFrom (a : List ByteArray) (more : Int) : List Ed → List Ed
  | [] => []
  | e :: l => ⟨e.f0 + more, (e.f2.length : Int), (a.take (e.f0 + e.f1).toNat).drop e.f0.toNat⟩ :: turnFrom a (more + ((e.f2.length : Int) - e.f1)) l
theorem okFrom_cons {fr many : Int} {e : Ed} {l : List Ed} (h : okFrom fr many (e :: l) = true) :
    fr ≤ e.f0 ∧ 0 ≤ e.f1 ∧ e.f0 ≤ many ∧ e.f1 ≤ many - e.f0 ∧ ¬ (e.f1 = 0 ∧ e.f2 = []) ∧ okFrom (e.f0 + e.f1 + 1) many l = true := by
  simp only [okFrom, Bool.and_eq_true, decide_eq_true_eq] at h
  exact ⟨h.1.1, h.1.2.1, h.1.2.2.1, h.1.2.2.2.1, h.1.2.2.2.2, h.2⟩
theorem Play_l0 (a : List ByteArray) (l : List Ed) (ha : a.length ≤ 1099511627776) (hn : l.length ≤ 4611686018427387904) :
    ∀ (d i t : Nat) (fr : Int) (out : List ByteArray), l.length - i = d → i ≤ l.length → 0 ≤ fr → (t : Int) ≤ fr → t ≤ a.length → okFrom fr a.length (l.drop i) = true → out.length + (a.length - t) + insE (l.drop i) ≤ 4398046511104 →
    Ev (fun k => diff_Play.l0 k a out (t : Int) l (l.length : Int) (i : Int)) (out ++ playFrom a t (l.drop i), true) := by
  intro d
  induction d with
  | zero =>
    intro i t fr out hd hi hf0 hf ht ho hb
    refine Ev.step (fun _ => diff_Play.l0.eq_2 ..) ?_
    rw [List.drop_of_length_le (by omega : l.length ≤ i)] at *
    simp only [if_neg (show ¬ (i : Int) < (l.length : Int) by omega), if_pos (show 0 ≤ (t : Int) by omega), if_pos (show (t : Int) ≤ (a.length : Int) by omega), slices_Concat_string_string.f, Int.toNat_natCast, List.flatten_cons, List.flatten_nil, List.append_nil]
    simp only [insE] at hb
    rw [if_pos (by simp only [List.length_append, List.length_drop]; omega)]
    exact Ev.now _
  | succ d ih =>
    intro i t fr out hd hi hf0 hf ht ho hb
    refine Ev.step (fun _ => diff_Play.l0.eq_2 ..) ?_
    have h0 : i < l.length := by omega
    rw [List.drop_eq_getElem_cons h0] at ho hb ⊢
    obtain ⟨c1, c2, c3, c4, _, ho'⟩ := okFrom_cons ho
    simp only [insE] at hb
    simp only [playFrom, if_pos (show (i : Int) < (l.length : Int) by omega), if_pos (show 0 ≤ (i : Int) by omega), rdE_at h0, w_succ h0 hn, if_pos (show 0 ≤ (t : Int) by omega), if_pos (show (t : Int) ≤ l[i].f0 by omega), if_pos c3, Int.toNat_natCast, slices_Concat_string_string.f, List.flatten_cons, List.flatten_nil, List.append_nil]
    have hlen : (out ++ ((a.take l[i].f0.toNat).drop t ++ l[i].f2)).length = out.length + (l[i].f0.toNat - t) + l[i].f2.length := by
      simp only [List.length_append, List.length_drop, List.length_take]; omega
    rw [if_pos (by rw [hlen]; omega), w_in (show -9223372036854775808 ≤ l[i].f0 + l[i].f1 by omega) (show l[i].f0 + l[i].f1 ≤ 9223372036854775807 by omega)]
    have h := ih (i + 1) (l[i].f0 + l[i].f1).toNat (l[i].f0 + l[i].f1 + 1) (out ++ ((a.take l[i].f0.toNat).drop t ++ l[i].f2)) (by omega) (by omega) (by omega) (by omega) (by omega) ho' (by rw [hlen]; omega)
    rw [Int.toNat_of_nonneg (by omega)] at h
    simp only [Option.bind_some]
    rw [List.append_assoc] at h
    exact h
theorem Play_ev (a : List ByteArray) (l : List Ed) (ha : a.length ≤ 1099511627776) (hn : l.length ≤ 1099511627776) (hb : insE l ≤ 1099511627776) :
    Ev (fun k => diff_Play.f k a l) (if okFrom 0 a.length l = true then (playFrom a 0 l, true) else ([], false)) := by
  refine Ev.bind (Right_ev (a.length : Int) l (by omega) (by omega) (by omega)) ?_
  by_cases h : okFrom 0 a.length l = true
  · simp only [if_pos h]
    have h2 := Play_l0 a l ha (by omega) _ 0 0 0 [] rfl (by omega) (by omega) (by omega) (by omega) (by simpa using h) (by simp; omega)
    simpa using h2
  · simp only [if_neg h]
    exact Ev.now _
theorem Turn_l0 (a : List ByteArray) (l : List Ed) (ha : a.length ≤ 1099511627776) (hn : l.length ≤ 1099511627776) :
    ∀ (d i : Nat) (more fr : Int) (out : List Ed), l.length - i = d → i ≤ l.length → 0 ≤ fr → fr ≤ a.length + 1 → -fr ≤ more → more + insE (l.drop i) ≤ 4398046511104 → okFrom fr a.length (l.drop i) = true → out.length + (l.length - i) ≤ 1099511627776 →
    Ev (fun k => diff_Turn.l0 k a out more l (l.length : Int) (i : Int)) (out ++ turnFrom a more (l.drop i)) := by
  intro d
  induction d with
  | zero =>
    intro i more fr out hd hi hf0 hf hm0 hm ho hb
    refine Ev.step (fun _ => diff_Turn.l0.eq_2 ..) ?_
    rw [List.drop_of_length_le (by omega : l.length ≤ i)] at *
    simp only [if_neg (show ¬ (i : Int) < (l.length : Int) by omega), turnFrom, List.append_nil]
    exact Ev.now _
  | succ d ih =>
    intro i more fr out hd hi hf0 hf hm0 hm ho hb
    refine Ev.step (fun _ => diff_Turn.l0.eq_2 ..) ?_
    have h0 : i < l.length := by omega
    rw [List.drop_eq_getElem_cons h0] at ho hm ⊢
    obtain ⟨c1, c2, c3, c4, _, ho'⟩ := okFrom_cons ho
    simp only [insE] at hm
    have hw : wrap64 (l[i].f0 + l[i].f1) = l[i].f0 + l[i].f1 := w_in (by omega) (by omega)
    simp only [turnFrom, if_pos (show (i : Int) < (l.length : Int) by omega), if_pos (show 0 ≤ (i : Int) by omega), rdE_at h0, w_succ h0 (show l.length ≤ 4611686018427387904 by omega), hw, if_pos (show 0 ≤ l[i].f0 by omega), if_pos (show l[i].f0 ≤ l[i].f0 + l[i].f1 by omega), if_pos (show l[i].f0 + l[i].f1 ≤ (a.length : Int) by omega), slices_Clone_string_string.f]
    rw [if_pos (by simp only [List.length_drop, List.length_take]; omega)]
    simp only [Option.bind_some, if_pos (show out.length < 3518437208883 by omega)]
    rw [w_in (show -9223372036854775808 ≤ l[i].f0 + more by omega) (show l[i].f0 + more ≤ 9223372036854775807 by omega), w_in (show -9223372036854775808 ≤ (l[i].f2.length : Int) - l[i].f1 by omega) (show (l[i].f2.length : Int) - l[i].f1 ≤ 9223372036854775807 by omega), w_in (show -9223372036854775808 ≤ more + ((l[i].f2.length : Int) - l[i].f1) by omega) (show more + ((l[i].f2.length : Int) - l[i].f1) ≤ 9223372036854775807 by omega)]
    have h := ih (i + 1) (more + ((l[i].f2.length : Int) - l[i].f1)) (l[i].f0 + l[i].f1 + 1) (out ++ [⟨l[i].f0 + more, (l[i].f2.length : Int), (a.take (l[i].f0 + l[i].f1).toNat).drop l[i].f0.toNat⟩]) (by omega) (by omega) (by omega) (by omega) (by omega) (by push_cast at hm; omega) ho' (by simp only [List.length_append, List.length_cons, List.length_nil]; omega)
    rw [List.append_assoc] at h
    exact h
theorem Turn_ev (a : List ByteArray) (l : List Ed) (ha : a.length ≤ 1099511627776) (hn : l.length ≤ 1099511627776) (hb : insE l ≤ 1099511627776) :
    Ev (fun k => diff_Turn.f k a l) (if okFrom 0 a.length l = true then turnFrom a 0 l else []) := by
  refine Ev.bind (Right_ev (a.length : Int) l (by omega) (by omega) (by omega)) ?_
  by_cases h : okFrom 0 a.length l = true
  · simp only [if_pos h]
    have h2 := Turn_l0 a l ha hn _ 0 0 0 [] rfl (by omega) (by omega) (by omega) (by omega) (by simp; omega) (by simpa using h) (by simp; omega)
    simpa using h2
  · simp only [if_neg h]
    exact Ev.now _
end Go.Proofs.Ytebfopcihjadpaa.Pr
