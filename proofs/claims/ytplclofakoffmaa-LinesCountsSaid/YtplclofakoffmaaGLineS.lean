/-
What the printed functions of layer 3 answer, in plain Lean.
-/
import Derived.Lib.SlicesS
import Derived.Test.YtplclofakoffmaaGLine
import Derived.Test.YtplclofakoffmaaD1a
import Derived.Test.YtplclofakoffmaaD2a
import Derived.Test.YtplclofakoffmaaD1d
import Derived.Test.YtplclofakoffmaaD1i
import Derived.Test.YtplclofakoffmaaD2b
import Derived.Test.YtplclofakoffmaaD3b
import Derived.Test.YtplclofakoffmaaD3c
import Derived.Test.YtplclofakoffmaaD3a
import Derived.Test.YtplclofakoffmaaD4c
import Derived.Test.YtplclofakoffmaaD4d
import Derived.Test.YtplclofakoffmaaD4b
namespace Go.Proofs.Ytplclofakoffmaa.Pr
open Go.RowKit Go.Proofs.YtplclofakoffmaaW.PrintWords Go.Proofs.YtplclofakoffmaaW.PrintLast Go.Proofs.YtplclofakoffmaaW.PrintMore
set_option linter.unusedVariables false
set_option linter.unusedSimpArgs false
theorem w_succ {i n : Nat} (h : i < n) (hn : n ≤ 4611686018427387904) : wrap64 ((i : Int) + 1) = ((i + 1 : Nat) : Int) := by unfold wrap64; omega
theorem w_in {x : Int} (h0 : -9223372036854775808 ≤ x) (h1 : x ≤ 9223372036854775807) : wrap64 x = x := by unfold wrap64; omega
theorem rdS_at {xs : List ByteArray} {i : Nat} (h : i < xs.length) : rdOf ByteArray.empty xs (i : Int) = xs[i] := by
  rw [rdOf, Int.toNat_natCast, List.getD_eq_getElem?_getD, List.getElem?_eq_getElem h, Option.getD_some]
theorem Ev.none_of {α : Type} {g : Nat → Option α} {r : α} (h : ∀ k, g k = some r) : Ev g r := ⟨0, fun k _ => h k⟩
theorem drop_eq_iff {α : Type} {a b : List α} {i : Nat} (h0 : i < a.length) (h1 : i < b.length) : a.drop i = b.drop i ↔ a[i] = b[i] ∧ a.drop (i + 1) = b.drop (i + 1) := by
  rw [List.drop_eq_getElem_cons h0, List.drop_eq_getElem_cons h1, List.cons.injEq]
theorem Texts_l0 (a b : List ByteArray) (hl : a.length = b.length) (hn : a.length ≤ 4611686018427387904) : ∀ d i, a.length - i = d → i ≤ a.length → Ev (fun k => grapevineref01_Texts.l0 k a b (i : Int)) (decide (a.drop i = b.drop i)) := by
  intro d
  induction d with
  | zero =>
    intro i hd hi
    refine Ev.step (fun _ => grapevineref01_Texts.l0.eq_2 ..) ?_
    simp only [if_neg (show ¬ (i : Int) < (a.length : Int) by omega)]
    rw [List.drop_of_length_le (by omega), List.drop_of_length_le (by omega)]
    exact Ev.now _
  | succ d ih =>
    intro i hd hi
    refine Ev.step (fun _ => grapevineref01_Texts.l0.eq_2 ..) ?_
    have h0 : i < a.length := by omega
    have h1 : i < b.length := by omega
    simp only [if_pos (show (i : Int) < (a.length : Int) by omega), if_pos (show 0 ≤ (i : Int) by omega), if_pos (show (i : Int) < (b.length : Int) by omega), rdS_at h0, rdS_at h1, str_iff, w_succ h0 hn]
    by_cases he : a[i] = b[i]
    · simp only [if_pos he]
      have h := ih (i + 1) (by omega) (by omega)
      have e : decide (a.drop (i + 1) = b.drop (i + 1)) = decide (a.drop i = b.drop i) := decide_eq_decide.2 (by rw [drop_eq_iff h0 h1]; simp [he])
      rw [e] at h
      exact h
    · simp only [if_neg he]
      have e : decide (a.drop i = b.drop i) = false := decide_eq_false (by rw [drop_eq_iff h0 h1]; simp [he])
      rw [e]
      exact Ev.now _
theorem Texts_ev (a b : List ByteArray) (hn : a.length ≤ 4611686018427387904) : Ev (fun k => grapevineref01_Texts.f k a b) (decide (a = b)) := by
  unfold grapevineref01_Texts.f
  by_cases hl : a.length = b.length
  · simp only [if_pos (show (a.length : Int) = (b.length : Int) by omega)]
    have h := Texts_l0 a b hl hn _ 0 rfl (by omega)
    simpa using h
  · simp only [if_neg (show ¬ (a.length : Int) = (b.length : Int) by omega)]
    rw [decide_eq_false (fun h => hl (by rw [h]))]
    exact Ev.now _
theorem Equal_l0 (a b : List ByteArray) (hl : a.length = b.length) (hn : a.length ≤ 4611686018427387904) : ∀ d i, a.length - i = d → i ≤ a.length → Ev (fun k => slices_Equal_string_string.l0 k a b (a.length : Int) (i : Int)) (decide (a.drop i = b.drop i)) := by
  intro d
  induction d with
  | zero =>
    intro i hd hi
    refine Ev.step (fun _ => slices_Equal_string_string.l0.eq_2 ..) ?_
    simp only [if_neg (show ¬ (i : Int) < (a.length : Int) by omega)]
    rw [List.drop_of_length_le (by omega), List.drop_of_length_le (by omega)]
    exact Ev.now _
  | succ d ih =>
    intro i hd hi
    refine Ev.step (fun _ => slices_Equal_string_string.l0.eq_2 ..) ?_
    have h0 : i < a.length := by omega
    have h1 : i < b.length := by omega
    simp only [if_pos (show (i : Int) < (a.length : Int) by omega), if_pos (show 0 ≤ (i : Int) by omega), if_pos (show (i : Int) < (b.length : Int) by omega), rdS_at h0, rdS_at h1, str_iff, w_succ h0 hn]
    by_cases he : a[i] = b[i]
    · simp only [if_pos he]
      have h := ih (i + 1) (by omega) (by omega)
      have e : decide (a.drop (i + 1) = b.drop (i + 1)) = decide (a.drop i = b.drop i) := decide_eq_decide.2 (by rw [drop_eq_iff h0 h1]; simp [he])
      rw [e] at h
      exact h
    · simp only [if_neg he]
      have e : decide (a.drop i = b.drop i) = false := decide_eq_false (by rw [drop_eq_iff h0 h1]; simp [he])
      rw [e]
      exact Ev.now _
theorem Equal_ev (a b : List ByteArray) (hn : a.length ≤ 4611686018427387904) : Ev (fun k => slices_Equal_string_string.f k a b) (decide (a = b)) := by
  unfold slices_Equal_string_string.f
  by_cases hl : a.length = b.length
  · simp only [if_pos (show (a.length : Int) = (b.length : Int) by omega)]
    have h := Equal_l0 a b hl hn _ 0 rfl (by omega)
    simpa using h
  · simp only [if_neg (show ¬ (a.length : Int) = (b.length : Int) by omega)]
    rw [decide_eq_false (fun h => hl (by rw [h]))]
    exact Ev.now _
/-! ### Split, Count, Join -/
theorem Split_some (s : ByteArray) (h : s.size ≤ 4398046511104) : lines_Split.f s = some (linesB s) := by unfold lines_Split.f; rw [if_pos h]
theorem Count_some (s : ByteArray) (h : s.size ≤ 4398046511104) : lines_Count.f s = some ((linesB s).length : Int) := by unfold lines_Count.f; rw [if_pos h]
def dat (l : List ByteArray) : List (List UInt8) := l.map (fun s => s.data.toList)
def flatB (l : List ByteArray) : ByteArray := bs (dat l).flatten
theorem intercalate_nil (xs : List (List UInt8)) : ([] : List UInt8).intercalate xs = xs.flatten := by
  induction xs with
  | nil => rfl
  | cons x xs ih =>
    cases xs with
    | nil => simp [List.intercalate]
    | cons y ys => simpa [List.intercalate] using ih
theorem joinB_nil (l : List ByteArray) : joinB l ⟨#[]⟩ = flatB l := by
  unfold joinB flatB bs Lib.join dat
  rw [intercalate_nil]
theorem Join_some (l : List ByteArray) (h : (flatB l).size ≤ 140737488355328) (hn : l.length ≤ 140737488355328) : lines_Join.f l = some (flatB l) := by
  unfold lines_Join.f strings_Join.f
  rw [joinB_nil, if_pos ⟨h, hn⟩]; rfl
theorem flatB_snoc (l : List ByteArray) (s : ByteArray) : flatB (l ++ [s]) = flatB l ++ s := by
  apply ByteArray.ext
  apply Array.toList_inj.1
  simp [flatB, dat, bs, ByteArray.data_append]
theorem flatB_take (l : List ByteArray) (i : Nat) (h : i < l.length) : flatB (l.take (i + 1)) = flatB (l.take i) ++ l[i] := by
  rw [List.take_succ_eq_append_getElem h, flatB_snoc]
theorem flatB_le (l : List ByteArray) (i : Nat) : (flatB (l.take i)).size ≤ (flatB l).size := by
  show (dat (l.take i)).flatten.length ≤ (dat l).flatten.length
  have h : (dat l).flatten.length = (dat (l.take i)).flatten.length + (dat (l.drop i)).flatten.length := by
    rw [← List.length_append, ← List.flatten_append]
    unfold dat
    rw [← List.map_append, List.take_append_drop]
  omega
theorem RJoin_l0 (l : List ByteArray) (hs : (flatB l).size ≤ 140737488355328) (hn : l.length ≤ 140737488355328) : ∀ d i, l.length - i = d → i ≤ l.length → Ev (fun k => grapevineref03_Join.l0 k l (flatB (l.take i)) (i : Int)) (flatB l) := by
  intro d
  induction d with
  | zero =>
    intro i hd hi
    refine Ev.step (fun _ => grapevineref03_Join.l0.eq_2 ..) ?_
    simp only [if_neg (show ¬ (i : Int) < (l.length : Int) by omega)]
    rw [List.take_of_length_le (by omega)]
    exact Ev.now _
  | succ d ih =>
    intro i hd hi
    refine Ev.step (fun _ => grapevineref03_Join.l0.eq_2 ..) ?_
    have h0 : i < l.length := by omega
    have h1 := flatB_le l (i + 1)
    rw [flatB_take l i h0, ByteArray.size_append] at h1
    simp only [if_pos (show (i : Int) < (l.length : Int) by omega), if_pos (show 0 ≤ (i : Int) by omega), rdS_at h0, if_pos (show (flatB (l.take i)).size + l[i].size ≤ 9223372036854775807 by omega), w_succ h0 (by omega), ← flatB_take l i h0]
    exact ih (i + 1) (by omega) (by omega)
theorem RJoin_ev (l : List ByteArray) (hs : (flatB l).size ≤ 140737488355328) (hn : l.length ≤ 140737488355328) : Ev (fun k => grapevineref03_Join.f k l) (flatB l) := RJoin_l0 l hs hn _ 0 rfl (by omega)
/-! ### Closed, Binary -/
theorem bt_get (s : ByteArray) (i : Nat) (h : i < s.size) : bt s (i : Int) = (s.data.toList[i]'h).toNat := by
  unfold bt
  rw [dif_pos (by simpa using h)]
  rfl
theorem bt_eq (s : ByteArray) (i : Nat) (h : i < s.size) (c : UInt8) : bt s (i : Int) = (c.toNat : Int) ↔ s.data.toList[i]'h = c := by
  rw [bt_get s i h]
  constructor
  · intro e; exact UInt8.toNat_inj.1 (by omega)
  · intro e; rw [e]
theorem last_get (s : ByteArray) (h : 0 < s.size) : s.data.toList.getLast? = some (s.data.toList[s.size - 1]'(by show s.size - 1 < s.size; omega)) := by
  rw [List.getLast?_eq_getElem?]
  exact List.getElem?_eq_getElem (by show s.size - 1 < s.size; omega)
theorem closedL_size (s : ByteArray) (h : 0 < s.size) : closedL s.data.toList = decide (bt s ((s.size - 1 : Nat) : Int) = 10) := by
  have hne : ¬ s.data.toList = [] := fun e => by have := congrArg List.length e; exact absurd (show s.size = 0 from this) (by omega)
  unfold closedL
  rw [decide_eq_false hne, last_get s h, Bool.false_or]
  have := bt_eq s (s.size - 1) (by omega) 10
  rw [Bool.eq_iff_iff, beq_iff_eq, decide_eq_true_iff, Option.some.injEq]
  exact this.symm
theorem closedL_zero (s : ByteArray) (h : s.size = 0) : closedL s.data.toList = true := by
  rw [ByteArray.size_eq_zero_iff.1 h]; rfl
theorem RClosed_some (s : ByteArray) (h : s.size ≤ 4611686018427387904) : grapevineref03_Closed.f s = some (closedL s.data.toList) := by
  unfold grapevineref03_Closed.f
  by_cases h0 : s.size = 0
  · rw [if_pos (by omega), closedL_zero s h0]
  · have e : wrap64 ((s.size : Int) - 1) = ((s.size - 1 : Nat) : Int) := by unfold wrap64; omega
    rw [if_neg (by omega), e, if_pos (by omega), if_pos (by omega), closedL_size s (by omega)]
    congr 1
theorem lit1 (c : UInt8) : (⟨#[c]⟩ : ByteArray).toList = [c] := by
  rw [ByteArray.toList, ByteArray.toList.loop, ByteArray.toList.loop]; rfl
theorem Closed_some (s : ByteArray) (h : s.size ≤ 4611686018427387904) : lines_Closed.f s = some (closedL s.data.toList) := by
  unfold lines_Closed.f
  by_cases h0 : s.size = 0
  · rw [if_pos (str_nil s h0), closedL_zero s h0]
  · have e : wrap64 ((s.size : Int) - ((⟨#[10]⟩ : ByteArray).size : Int)) = ((s.size - 1 : Nat) : Int) := by
      show wrap64 ((s.size : Int) - ((1 : Nat) : Int)) = _
      unfold wrap64; omega
    rw [if_neg (str_ne s h0)]
    unfold strings_HasSuffix.f stringslite_HasSuffix.f
    rw [e, if_pos (show (s.size : Int) ≥ ((⟨#[10]⟩ : ByteArray).size : Int) from by show (s.size : Int) ≥ ((1 : Nat) : Int); omega), if_pos (by omega), if_pos (by omega), closedL_size s (by omega)]
    simp only [Option.bind_some]
    congr 1
    rw [Bool.eq_iff_iff, beq_iff_eq, str_iff, decide_eq_true_iff]
    have h1 : s.size - 1 < s.size := by omega
    rw [show (10 : Int) = ((10 : UInt8).toNat : Int) from rfl, bt_eq s (s.size - 1) h1 10]
    have hx : s.extract ((s.size - 1 : Nat) : Int).toNat s.size = bs [s.data.toList[s.size - 1]'h1] := by
      apply ByteArray.ext
      apply Array.toList_inj.1
      have h3 : s.data.toList.length = s.size := rfl
      simp only [ByteArray.data_extract, Array.toList_extract, Int.toNat_natCast, bs, List.extract_eq_take_drop]
      rw [List.drop_eq_getElem_cons (by omega), show s.size - (s.size - 1) = 1 by omega]
      simp
    rw [hx]
    constructor
    · intro hh
      have := bs_inj (a := [_]) (b := [10]) hh
      simpa using this
    · intro hh; rw [hh]; rfl
theorem index_mem (l : List UInt8) (c : UInt8) : decide (Lib.indexByte l c ≥ 0) = decide (c ∈ l) := by
  induction l with
  | nil => simp [Lib.indexByte]
  | cons b l ih =>
    unfold Lib.indexByte
    by_cases h : b = c
    · subst h; simp
    · have h1 := indexByte_lt l c
      have hb : (b == c) = false := by simpa using h
      rw [hb]
      have e : decide (c ∈ b :: l) = decide (c ∈ l) := decide_eq_decide.2 (by simp [Ne.symm h])
      rw [e, ← ih]
      by_cases h2 : Lib.indexByte l c = -1
      · simp [h2]
      · have h4 : (Lib.indexByte l c == -1) = false := by simpa using h2
        rw [h4]
        simp only [Bool.false_eq_true, if_false]
        exact decide_eq_decide.2 (by omega)
theorem Binary_some (s : ByteArray) : lines_Binary.f s = some (decide (0 ∈ s.data.toList)) := by
  unfold lines_Binary.f strings_Contains.f strings_Index.f
  rw [if_pos (show (⟨#[0]⟩ : ByteArray).size = 1 from rfl)]
  simp only [Option.bind_some]
  exact congrArg some (index_mem s.data.toList 0)
theorem RBinary_l0 (s : ByteArray) (hn : s.size ≤ 4611686018427387904) : ∀ d i, s.size - i = d → i ≤ s.size → Ev (fun k => grapevineref03_Binary.l0 k s (i : Int)) (decide (0 ∈ s.data.toList.drop i)) := by
  have h3 : s.data.toList.length = s.size := rfl
  intro d
  induction d with
  | zero =>
    intro i hd hi
    refine Ev.step (fun _ => grapevineref03_Binary.l0.eq_2 ..) ?_
    simp only [if_neg (show ¬ (i : Int) < (s.size : Int) by omega)]
    rw [List.drop_of_length_le (by omega)]
    exact Ev.now _
  | succ d ih =>
    intro i hd hi
    refine Ev.step (fun _ => grapevineref03_Binary.l0.eq_2 ..) ?_
    have h0 : i < s.size := by omega
    have hb := bt_eq s i h0 0
    rw [show ((0 : UInt8).toNat : Int) = 0 from rfl] at hb
    simp only [if_pos (show (i : Int) < (s.size : Int) by omega), if_pos (show 0 ≤ (i : Int) by omega), hb, w_succ h0 hn]
    rw [List.drop_eq_getElem_cons (by omega)]
    by_cases he : s.data.toList[i] = 0
    · simp only [if_pos he]
      rw [decide_eq_true (by rw [he]; simp)]
      exact Ev.now _
    · simp only [if_neg he]
      have h := ih (i + 1) (by omega) (by omega)
      rw [show decide (0 ∈ s.data.toList[i] :: s.data.toList.drop (i + 1)) = decide (0 ∈ s.data.toList.drop (i + 1)) from decide_eq_decide.2 (List.mem_cons.trans ⟨fun h => h.resolve_left (fun e => he e.symm), Or.inr⟩)]
      exact h
theorem RBinary_ev (s : ByteArray) (hn : s.size ≤ 4611686018427387904) : Ev (fun k => grapevineref03_Binary.f k s) (decide (0 ∈ s.data.toList)) := RBinary_l0 s hn _ 0 rfl (by omega)
/-! ### ref03.Split -/
def goL (out : List (List UInt8)) (op : Bool) : List UInt8 → List (List UInt8)
  | [] => out
  | b :: l => goL (if op = true then out.set (out.length - 1) (out.getD (out.length - 1) [] ++ [b]) else out ++ [[b]]) (b != 10) l
theorem set_last (out : List (List UInt8)) (cur x : List UInt8) : (out ++ [cur]).set ((out ++ [cur]).length - 1) x = out ++ [x] := by
  rw [List.length_append, List.length_singleton, Nat.add_sub_cancel, List.set_append_right _ _ (by omega)]
  simp
theorem getD_last (out : List (List UInt8)) (cur : List UInt8) : (out ++ [cur]).getD ((out ++ [cur]).length - 1) [] = cur := by
  rw [List.length_append, List.length_singleton, Nat.add_sub_cancel]; simp
theorem goL_eq (l : List UInt8) : (∀ out, goL out false l = out ++ lns l) ∧ (∀ out cur, goL (out ++ [cur]) true l = out ++ glue cur (lns l)) := by
  induction l with
  | nil => exact ⟨fun out => by simp [goL, lns], fun out cur => by simp [goL, lns, glue]⟩
  | cons b l ih =>
    constructor
    · intro out
      rw [goL, if_neg (by simp)]
      by_cases h : b = 10
      · subst h; rw [show ((10 : UInt8) != 10) = false from rfl, ih.1, lns_nl]; simp
      · rw [show (b != 10) = true from by simpa using h, ih.2, lns_no h]
    · intro out cur
      rw [goL, if_pos rfl, set_last, getD_last]
      by_cases h : b = 10
      · subst h; rw [show ((10 : UInt8) != 10) = false from rfl, ih.1, lns_nl]; simp [glue]
      · rw [show (b != 10) = true from by simpa using h, ih.2, lns_no h, glue_glue]
theorem goL_all (l : List UInt8) : goL [] false l = lns l := by simpa using (goL_eq l).1 []
theorem ex_one (s : ByteArray) (i : Nat) (h : i < s.size) : s.extract i (i + 1) = bs [s.data.toList[i]'h] := by
  apply ByteArray.ext
  apply Array.toList_inj.1
  have h3 : s.data.toList.length = s.size := rfl
  simp only [ByteArray.data_extract, Array.toList_extract, bs, List.extract_eq_take_drop]
  rw [List.drop_eq_getElem_cons (by omega), show i + 1 - i = 1 by omega]
  simp
theorem bs_append (a b : List UInt8) : bs a ++ bs b = bs (a ++ b) := by
  apply ByteArray.ext
  apply Array.toList_inj.1
  simp [bs, ByteArray.data_append]
theorem rd_bs (out : List (List UInt8)) (j : Nat) (h : j < out.length) : rdOf ByteArray.empty (out.map bs) (j : Int) = bs (out.getD j []) := by
  rw [rdOf, Int.toNat_natCast, List.getD_eq_getElem?_getD, List.getElem?_map, List.getD_eq_getElem?_getD, List.getElem?_eq_getElem h]; rfl
theorem RSplit_l0 (s : ByteArray) (hn : s.size ≤ 4398046511104) : ∀ d i (out : List (List UInt8)) (op : Bool), s.size - i = d → i ≤ s.size → out.length ≤ i → (∀ x ∈ out, x.length ≤ i) → (op = true → out ≠ []) →
    Ev (fun k => grapevineref03_Split.l0 k s (out.map bs) op (i : Int)) ((goL out op (s.data.toList.drop i)).map bs) := by
  have h3 : s.data.toList.length = s.size := rfl
  intro d
  induction d with
  | zero =>
    intro i out op hd hi ho hx hop
    refine Ev.step (fun _ => grapevineref03_Split.l0.eq_2 ..) ?_
    simp only [if_neg (show ¬ (i : Int) < (s.size : Int) by omega)]
    rw [List.drop_of_length_le (by omega)]
    exact Ev.now _
  | succ d ih =>
    intro i out op hd hi ho hx hop
    refine Ev.step (fun _ => grapevineref03_Split.l0.eq_2 ..) ?_
    have h0 : i < s.size := by omega
    have hw := w_succ h0 (by omega)
    have hb := bt_eq s i h0 10
    rw [show ((10 : UInt8).toNat : Int) = 10 from rfl] at hb
    have hbt : (bt s (i : Int) != 10) = (s.data.toList[i] != 10) := by
      rw [Bool.eq_iff_iff, bne_iff_ne, bne_iff_ne, Ne, Ne, hb]
    have hex : s.extract (i : Int).toNat ((i + 1 : Nat) : Int).toNat = bs [s.data.toList[i]] := by
      rw [Int.toNat_natCast, Int.toNat_natCast]; exact ex_one s i h0
    have hsz : (bs [s.data.toList[i]]).size = 1 := rfl
    rw [List.drop_eq_getElem_cons (by omega), goL]
    have fin : ∀ (m : List (List UInt8)) (j : Nat), m ≠ [] → j = m.length - 1 → m.length ≤ i + 1 → (∀ x ∈ m, x.length ≤ i) →
        Ev (fun k => if 0 ≤ (wrap64 (((m.map bs).length : Int) - 1)) then (if (wrap64 (((m.map bs).length : Int) - 1)) < ((m.map bs).length : Int) then (if 0 ≤ (i : Int) then (if (i : Int) ≤ (wrap64 ((i : Int) + 1)) then (if (wrap64 ((i : Int) + 1)) ≤ (s.size : Int) then (if (rdOf ByteArray.empty (m.map bs) (wrap64 (((m.map bs).length : Int) - 1))).size + (s.extract (i : Int).toNat ((wrap64 ((i : Int) + 1)) : Int).toNat).size ≤ 9223372036854775807 then (grapevineref03_Split.l0 k s ((m.map bs).set ((wrap64 (((m.map bs).length : Int) - 1)) : Int).toNat ((rdOf ByteArray.empty (m.map bs) (wrap64 (((m.map bs).length : Int) - 1))) ++ (s.extract (i : Int).toNat ((wrap64 ((i : Int) + 1)) : Int).toNat))) ((bt s (i : Int)) != 10) (wrap64 ((i : Int) + 1))) else (none)) else (none)) else (none)) else (none)) else (none)) else (none))
          ((goL (m.set (m.length - 1) (m.getD (m.length - 1) [] ++ [s.data.toList[i]])) (s.data.toList[i] != 10) (s.data.toList.drop (i + 1))).map bs) := by
      intro m j hm hj hl hmx
      have hpos : 0 < m.length := List.length_pos_iff.2 hm
      have e1 : wrap64 (((m.map bs).length : Int) - 1) = ((m.length - 1 : Nat) : Int) := by rw [List.length_map]; unfold wrap64; omega
      have hge : m.getD (m.length - 1) [] = m[m.length - 1] := by rw [List.getD_eq_getElem?_getD, List.getElem?_eq_getElem (by omega)]; rfl
      have hlen : (m.getD (m.length - 1) []).length ≤ i := by rw [hge]; exact hmx _ (List.getElem_mem _)
      have q1 : (0 : Int) ≤ ((m.length - 1 : Nat) : Int) := by omega
      have q2 : ((m.length - 1 : Nat) : Int) < (m.length : Int) := by omega
      have q3 : (bs (m.getD (m.length - 1) [])).size + (bs [s.data.toList[i]]).size ≤ 9223372036854775807 := by
        show (m.getD (m.length - 1) []).length + 1 ≤ _
        omega
      rw [e1, rd_bs m (m.length - 1) (by omega), hw, hex, hbt]
      simp only [List.length_map, if_pos q1, if_pos q2, if_pos (show (0 : Int) ≤ (i : Int) by omega), if_pos (show (i : Int) ≤ ((i + 1 : Nat) : Int) by omega), if_pos (show ((i + 1 : Nat) : Int) ≤ (s.size : Int) by omega), if_pos q3, Int.toNat_natCast, bs_append, ← List.map_set]
      refine ih (i + 1) _ _ (by omega) (by omega) (by rw [List.length_set]; omega) ?_ (fun _ => by intro e; have := congrArg List.length e; rw [List.length_set, List.length_nil] at this; omega)
      intro x hx
      rcases List.mem_or_eq_of_mem_set hx with hx | rfl
      · have := hmx x hx; omega
      · rw [List.length_append]; simp only [List.length_singleton]; omega
    simp only [if_pos (show (i : Int) < (s.size : Int) by omega)]
    cases op with
    | true =>
      simp only [if_true]
      exact fin out _ (hop rfl) rfl (by omega) hx
    | false =>
      simp only [Bool.false_eq_true, if_false, Option.bind_some, if_pos (show (out.map bs).length < 8796093022208 by rw [List.length_map]; omega)]
      have h := fin (out ++ [[]]) _ (by simp) rfl (by rw [List.length_append]; simp; omega) (fun x hx' => by
        rcases List.mem_append.1 hx' with hx' | hx'
        · exact hx x hx'
        · simp at hx'; subst hx'; simp)
      rw [set_last, getD_last, List.nil_append, List.map_append] at h
      exact h
theorem RSplit_ev (s : ByteArray) (hn : s.size ≤ 4398046511104) : Ev (fun k => grapevineref03_Split.f k s) (linesB s) := by
  have h := RSplit_l0 s hn _ 0 [] false rfl (by omega) (by simp) (by simp) (by simp)
  rw [List.drop_zero, goL_all, ← linesB_lns] at h
  exact h
/-! ### Right -/
theorem dat_bs (l : List (List UInt8)) : dat (l.map bs) = l := by
  unfold dat
  rw [List.map_map]
  exact List.map_id'' (fun _ => rfl) l
theorem map_dat (l : List ByteArray) : (dat l).map bs = l := by
  unfold dat
  rw [List.map_map]
  exact List.map_id'' (fun _ => rfl) l
theorem split_flat (l : List ByteArray) : linesB (flatB l) = (lns (dat l).flatten).map bs := linesB_lns _
theorem right_iff (l : List ByteArray) : l = linesB (flatB l) ↔ rightL (dat l) := by
  rw [split_flat, ← lns_iff]
  constructor
  · intro h
    have := congrArg dat h
    rwa [dat_bs] at this
  · intro h
    rw [← h, map_dat]
theorem flat_split (s : ByteArray) : flatB (linesB s) = s := by
  unfold flatB
  rw [linesB_lns, dat_bs, lns_flatten]; rfl
theorem right_split (s : ByteArray) : linesB s = linesB (flatB (linesB s)) := by rw [flat_split]
theorem Right_ev (l : List ByteArray) (hs : (flatB l).size ≤ 4398046511104) (hn : l.length ≤ 4398046511104) : Ev (fun k => lines_Right.f k l) (decide (l = linesB (flatB l))) := by
  unfold lines_Right.f
  refine Ev.bind (Ev.none_of fun _ => Join_some l (by omega) (by omega)) ?_
  refine Ev.bind (Ev.none_of fun _ => Split_some _ hs) ?_
  refine Ev.bind (Equal_ev _ _ (by omega)) ?_
  exact Ev.now _
def rightB : List (List UInt8) → Bool
  | [] => true
  | x :: xs => !decide (x = []) && (x.dropLast.all (· != 10)) && (decide (xs = []) || x.getLast? == some 10) && rightB xs
theorem rightB_iff (l : List (List UInt8)) : rightB l = true ↔ rightL l := by
  induction l with
  | nil => simp [rightB, rightL]
  | cons x xs ih =>
    simp only [rightB, rightL, Bool.and_eq_true, ih, midL, List.all_eq_true, bne_iff_ne, Bool.or_eq_true, decide_eq_true_iff, Bool.not_eq_true', decide_eq_false_iff_not, beq_iff_eq]
    constructor
    · rintro ⟨⟨⟨a, b⟩, c⟩, d⟩
      exact ⟨a, b, fun h => c.resolve_left h, d⟩
    · rintro ⟨a, b, c, d⟩
      refine ⟨⟨⟨a, b⟩, ?_⟩, d⟩
      by_cases h : xs = []
      · exact .inl h
      · exact .inr (c h)
theorem dat_drop (l : List ByteArray) (i : Nat) (h : i < l.length) : dat (l.drop i) = l[i].data.toList :: dat (l.drop (i + 1)) := by
  rw [List.drop_eq_getElem_cons h]; rfl
theorem RRight_l1 (l : List ByteArray) (hn : l.length ≤ 4398046511104) (i : Nat) (hi : i < l.length) (hz : l[i].size ≤ 4398046511104) (h0 : 0 < l[i].size) (R : Bool) (hR : Ev (fun k => grapevineref03_Right.l0 k l ((i + 1 : Nat) : Int)) R) :
    ∀ d j, l[i].size - 1 - j = d → j ≤ l[i].size - 1 → Ev (fun k => grapevineref03_Right.l1 k l (i : Int) (l[i].size : Int) (j : Int)) (((l[i].data.toList.dropLast.drop j).all (· != 10)) && ((decide (i + 1 = l.length) || l[i].data.toList.getLast? == some 10) && R)) := by
  have h3 : l[i].data.toList.length = l[i].size := rfl
  have h4 : l[i].data.toList.dropLast.length = l[i].size - 1 := by rw [List.length_dropLast, h3]
  have e1 : wrap64 ((l[i].size : Int) - 1) = ((l[i].size - 1 : Nat) : Int) := by unfold wrap64; omega
  have e2 : wrap64 ((l.length : Int) - 1) = ((l.length - 1 : Nat) : Int) := by unfold wrap64; omega
  have q1 : (0 : Int) ≤ (i : Int) := by omega
  have q2 : (i : Int) < (l.length : Int) := by omega
  intro d
  induction d with
  | zero =>
    intro j hd hj
    have hj' : j = l[i].size - 1 := by omega
    subst hj'
    refine Ev.step (fun _ => grapevineref03_Right.l1.eq_2 ..) ?_
    have q3 : ¬ ((l[i].size - 1 : Nat) : Int) < ((l[i].size - 1 : Nat) : Int) := by omega
    have q4 : (0 : Int) ≤ ((l[i].size - 1 : Nat) : Int) := by omega
    have q5 : ((l[i].size - 1 : Nat) : Int) < (l[i].size : Int) := by omega
    have hb := bt_eq l[i] (l[i].size - 1) (by omega) 10
    rw [show ((10 : UInt8).toNat : Int) = 10 from rfl] at hb
    rw [List.drop_of_length_le (by omega), List.all_nil, Bool.true_and, last_get l[i] h0]
    simp only [e1, e2, if_neg q3, if_pos q1, if_pos q2, if_pos q4, rdS_at hi, if_pos q5, hb, w_succ hi (by omega)]
    by_cases hl : i + 1 = l.length
    · rw [decide_eq_true hl, Bool.true_or, Bool.true_and]
      simp only [if_neg (show ¬ (i : Int) < ((l.length - 1 : Nat) : Int) by omega)]
      exact hR
    · rw [decide_eq_false hl, Bool.false_or]
      simp only [if_pos (show (i : Int) < ((l.length - 1 : Nat) : Int) by omega)]
      by_cases hc : l[i].data.toList[l[i].size - 1]'(by omega) = 10
      · simp only [if_pos hc]
        rw [hc]
        simpa using hR
      · simp only [if_neg hc]
        rw [show (some (l[i].data.toList[l[i].size - 1]'(by omega)) == some 10) = false from by rw [Bool.eq_false_iff, Ne, beq_iff_eq]; exact fun h => hc (Option.some.inj h)]
        exact Ev.now _
  | succ d ih =>
    intro j hd hj
    refine Ev.step (fun _ => grapevineref03_Right.l1.eq_2 ..) ?_
    have q3 : (j : Int) < ((l[i].size - 1 : Nat) : Int) := by omega
    have q4 : (0 : Int) ≤ (j : Int) := by omega
    have q5 : (j : Int) < (l[i].size : Int) := by omega
    have hjs : j < l[i].size := by omega
    have hb := bt_eq l[i] j hjs 10
    rw [show ((10 : UInt8).toNat : Int) = 10 from rfl] at hb
    have hge : l[i].data.toList.dropLast[j]'(by omega) = l[i].data.toList[j]'(by omega) := List.getElem_dropLast _
    rw [List.drop_eq_getElem_cons (by omega), List.all_cons, hge]
    simp only [e1, if_pos q3, if_pos q1, if_pos q2, if_pos q4, rdS_at hi, if_pos q5, hb, w_succ hjs (by omega)]
    by_cases hc : l[i].data.toList[j]'(by omega) = 10
    · simp only [if_pos hc]
      rw [hc]
      exact Ev.now _
    · simp only [if_neg hc]
      rw [show (l[i].data.toList[j]'(by omega) != 10) = true from by rw [bne_iff_ne]; exact hc, Bool.true_and]
      exact ih (j + 1) (by omega) (by omega)
theorem RRight_l0 (l : List ByteArray) (hn : l.length ≤ 4398046511104) (hz : ∀ s ∈ l, s.size ≤ 4398046511104) : ∀ d i, l.length - i = d → i ≤ l.length → Ev (fun k => grapevineref03_Right.l0 k l (i : Int)) (rightB (dat (l.drop i))) := by
  intro d
  induction d with
  | zero =>
    intro i hd hi
    refine Ev.step (fun _ => grapevineref03_Right.l0.eq_2 ..) ?_
    simp only [if_neg (show ¬ (i : Int) < (l.length : Int) by omega)]
    rw [List.drop_of_length_le (by omega)]
    exact Ev.now _
  | succ d ih =>
    intro i hd hi
    refine Ev.step (fun _ => grapevineref03_Right.l0.eq_2 ..) ?_
    have h0 : i < l.length := by omega
    rw [dat_drop l i h0, rightB]
    simp only [if_pos (show (i : Int) < (l.length : Int) by omega), if_pos (show 0 ≤ (i : Int) by omega), rdS_at h0]
    by_cases hs : l[i].size = 0
    · simp only [if_pos (show (l[i].size : Int) = 0 by omega)]
      rw [decide_eq_true (show l[i].data.toList = [] from List.eq_nil_of_length_eq_zero hs)]
      exact Ev.now _
    · simp only [if_neg (show ¬ (l[i].size : Int) = 0 by omega)]
      rw [decide_eq_false (show ¬ l[i].data.toList = [] from fun e => hs (congrArg List.length e))]
      have hnil : decide (dat (l.drop (i + 1)) = []) = decide (i + 1 = l.length) := decide_eq_decide.2 (by
        rw [← List.length_eq_zero_iff]
        unfold dat
        rw [List.length_map, List.length_drop]
        omega)
      have h := RRight_l1 l hn i h0 (hz _ (List.getElem_mem _)) (by omega) _ (ih (i + 1) (by omega) (by omega)) _ 0 rfl (by omega)
      rw [List.drop_zero] at h
      rw [hnil]
      simpa [Bool.and_assoc] using h
theorem RRight_ev (l : List ByteArray) (hn : l.length ≤ 4398046511104) (hz : ∀ s ∈ l, s.size ≤ 4398046511104) : Ev (fun k => grapevineref03_Right.f k l) (rightB (dat l)) := by
  have h := RRight_l0 l hn hz _ 0 rfl (by omega)
  rwa [List.drop_zero] at h
/-! ### few -/
def totL : List ByteArray → Nat
  | [] => 0
  | s :: l => min s.size 100000 + totL l
theorem totL_snoc (l : List ByteArray) (s : ByteArray) : totL (l ++ [s]) = totL l + min s.size 100000 := by
  induction l with
  | nil => simp [totL]
  | cons x l ih => simp only [List.cons_append, totL, ih]; omega
theorem totL_take (l : List ByteArray) (i : Nat) (h : i < l.length) : totL (l.take (i + 1)) = totL (l.take i) + min l[i].size 100000 := by
  rw [List.take_succ_eq_append_getElem h, totL_snoc]
theorem totL_bound (l : List ByteArray) : totL l ≤ l.length * 100000 := by
  induction l with
  | nil => simp [totL]
  | cons x l ih => simp only [totL, List.length_cons]; omega
theorem Total_l0 (l : List ByteArray) (hn : l.length ≤ 40) : ∀ d i, l.length - i = d → i ≤ l.length → Ev (fun k => grapevineref03_Total.l0 k l (totL (l.take i) : Int) (i : Int)) (totL l : Int) := by
  intro d
  induction d with
  | zero =>
    intro i hd hi
    refine Ev.step (fun _ => grapevineref03_Total.l0.eq_2 ..) ?_
    simp only [if_neg (show ¬ (i : Int) < (l.length : Int) by omega)]
    rw [List.take_of_length_le (by omega)]
    exact Ev.now _
  | succ d ih =>
    intro i hd hi
    refine Ev.step (fun _ => grapevineref03_Total.l0.eq_2 ..) ?_
    have h0 : i < l.length := by omega
    have h1 := totL_bound (l.take i)
    have h2 : (l.take i).length ≤ 40 := by rw [List.length_take]; omega
    have e : wrap64 ((totL (l.take i) : Int) + mn (l[i].size : Int) 100000) = (totL (l.take (i + 1)) : Int) := by
      rw [totL_take l i h0]
      unfold mn wrap64
      split <;> omega
    simp only [if_pos (show (i : Int) < (l.length : Int) by omega), if_pos (show 0 ≤ (i : Int) by omega), rdS_at h0, e, w_succ h0 (by omega)]
    exact ih (i + 1) (by omega) (by omega)
def fewL (l : List ByteArray) : Bool := decide (l.length ≤ 40) && decide (totL l ≤ 400)
theorem few_ev (l : List ByteArray) : Ev (fun k => grapevinelaw03_few.f k l) (fewL l) := by
  unfold grapevinelaw03_few.f fewL
  by_cases h : l.length ≤ 40
  · simp only [if_pos (show (l.length : Int) ≤ 40 by omega)]
    rw [decide_eq_true h, Bool.true_and]
    refine Ev.bind (Total_l0 l h _ 0 rfl (by omega)) ?_
    rw [show decide (totL l ≤ 400) = decide ((totL l : Int) ≤ 400) from decide_eq_decide.2 (by omega)]
    exact Ev.now _
  · simp only [if_neg (show ¬ (l.length : Int) ≤ 40 by omega)]
    rw [decide_eq_false h]
    exact Ev.now _
theorem few_flat (l : List ByteArray) : totL l ≤ 400 → (flatB l).size ≤ totL l ∧ ∀ s ∈ l, s.size ≤ 400 := by
  induction l with
  | nil => intro _; exact ⟨Nat.zero_le _, by simp⟩
  | cons s l ih =>
    intro h
    simp only [totL] at h ⊢
    obtain ⟨h1, h2⟩ := ih (by omega)
    have e : (flatB (s :: l)).size = s.size + (flatB l).size := by
      show (dat (s :: l)).flatten.length = s.data.toList.length + (dat l).flatten.length
      simp [dat]
    refine ⟨by omega, fun t ht => ?_⟩
    rcases List.mem_cons.1 ht with rfl | ht
    · omega
    · exact h2 t ht
end Go.Proofs.Ytplclofakoffmaa.Pr
