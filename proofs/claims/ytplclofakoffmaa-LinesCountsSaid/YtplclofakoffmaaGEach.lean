/-
lines.each and its iterator: it makes a round for each line of the text; slices.AppendSeq, slices.Collect, lines.Split and lines.Count over it.
-/
import Derived.Lib.SlicesS
import Derived.Test.YtplclofakoffmaaGRange
import Derived.Test.YtplclofakoffmaaGIndex
namespace Go.Proofs.Ytplclofakoffmaa.Pr
open Go.RowKit Go.Proofs.YtplclofakoffmaaW.PrintWords Go.Proofs.YtplclofakoffmaaW.PrintLast Go.Proofs.YtplclofakoffmaaW.PrintMore
set_option linter.unusedVariables false
set_option linter.unusedSimpArgs false
attribute [local go_sem] Oper.semAt_some
/-- Where a text's first line ends. -/
def cutAt (s : ByteArray) : Nat := if Lib.indexByte s.data.toList 10 + 1 = 0 then s.size else (Lib.indexByte s.data.toList 10 + 1).toNat
theorem indexByte_lt (l : List UInt8) (c : UInt8) : Lib.indexByte l c = -1 ∨ (0 ≤ Lib.indexByte l c ∧ Lib.indexByte l c < l.length) := by
  induction l with
  | nil => exact .inl rfl
  | cons b l ih =>
    unfold Lib.indexByte
    by_cases h : b = c
    · subst h; right; simp
    · rcases ih with h1 | ⟨h1, h2⟩
      · left; simp [h, h1]
      · right
        have h3 : ¬ Lib.indexByte l c = -1 := by omega
        simp [h, h3]; omega
theorem cutAt_pos (s : ByteArray) (h : 0 < s.size) : 0 < cutAt s ∧ cutAt s ≤ s.size := by
  have h1 := indexByte_lt s.data.toList 10
  have h2 : s.data.toList.length = s.size := rfl
  unfold cutAt
  split <;> omega
/-- A text's lines. -/
def linesB (s : ByteArray) : List ByteArray :=
  if h : s.size = 0 then [] else s.extract 0 (cutAt s) :: linesB (s.extract (cutAt s) s.size)
termination_by s.size
decreasing_by
  have := cutAt_pos s (by omega)
  rw [ByteArray.size_extract, Nat.min_self]; omega
theorem linesB_nil (s : ByteArray) (h : s.size = 0) : linesB s = [] := by rw [linesB, dif_pos h]
theorem linesB_cons (s : ByteArray) (h : s.size ≠ 0) : linesB s = s.extract 0 (cutAt s) :: linesB (s.extract (cutAt s) s.size) := by rw [linesB, dif_neg h]
/-- How many bytes the cell's text still has. -/
def leftC (B : Nat) (w : World) : Nat := match w.heap[B]? with
  | some (Obj.cells cs _ _) => (match cs[0]? with | some (Value.string s) => s.size | _ => 0)
  | _ => 0
theorem leftC_eq {B : Nat} {w : World} {t : TypeId} {s : ByteArray} (h : Boxed w B t (.string s)) : leftC B w = s.size := by
  unfold leftC; rw [show w.heap[B]? = _ from h]; rfl
theorem str_iff (x y : ByteArray) : x.toList = y.toList ↔ x = y := by
  have := Lib.bytes_beq_iff x y
  rwa [beq_iff_eq] at this
theorem empty_toList : ByteArray.empty.toList = ([] : List UInt8) := by
  rw [ByteArray.toList, ByteArray.toList.loop]; simp
theorem str_nil (s : ByteArray) (h : s.size = 0) : s.toList = [] := by
  rw [ByteArray.size_eq_zero_iff.1 h, empty_toList]
theorem str_ne (s : ByteArray) (h : s.size ≠ 0) : s.toList ≠ [] := by
  intro e
  rw [← empty_toList, str_iff] at e
  exact h (by rw [e]; rfl)
set_option maxRecDepth 100000 in
set_option maxHeartbeats 1000000 in
theorem each1_in (n : Nat) (hn : 1 ≤ n) (l B : Nat) (s : ByteArray) (hs : s.size ≤ 9223372036854775807) (J : List ByteArray → World → Prop)
    (hJ : ∀ pre W1 v, J pre W1 → J pre (W1.setCell ⟨B, 0, none⟩ v))
    (hY : ∀ pre x W, J pre W → pre.length < (linesB s).length → YieldAt Fence.wide (n - 1) Try.prog l #[.string x] W fun e W' => e = .returned (.bool true) ∧ J (pre ++ [x]) W' ∧ W'.heap[B]? = W.heap[B]?)
    (W : World) (hB : Boxed W B 9 (.string s)) (h0 : J [] W) :
    CallsIn Fence.wide n Try.prog 30 #[.func (.yield l) #[] #[], .pointer (some ⟨B, 0, none⟩)] W fun e W' => (∃ v, e = .returned v) ∧ J (linesB s) W' := by
  refine callsIn_of_wp Try.func30 rfl trivial ?_ rfl
  simp only [Try.ntmps30, List.size_toArray, List.length_cons, List.length_nil, Nat.reduceAdd, Nat.reduceSub, Array.replicate_succ, Array.replicate_zero, List.push_toArray, List.append_toArray, List.nil_append, List.cons_append]
  gi_wp2
  gi_loopw [3] (fun i wr => ∃ (pre : List ByteArray) (s' : ByteArray), s'.size ≤ s.size ∧ linesB s = pre ++ linesB s' ∧ Boxed wr B 9 (.string s') ∧ J pre wr)
    (fun i wr => leftC B wr)
  case atStart => exact ⟨[], s, Nat.le_refl _, rfl, hB, h0⟩
  case round =>
    obtain ⟨pre, s', hle, hx, hb, hJs⟩ := hrel
    have hc := hb.cell
    have hf := hb.frozen
    by_cases hz : s'.size = 0
    · have e1 := str_nil s' hz
      have e2 : (!s'.toList.isEmpty) = false := by rw [e1]; rfl
      gi_wp2
      go_end0
      exact ⟨⟨_, rfl⟩, by rw [hx, linesB_nil _ hz, List.append_nil]; exact hJs⟩
    · have e1 := str_ne s' hz
      have e2 : (!s'.toList.isEmpty) = true := by
        cases h : s'.toList with
        | nil => exact absurd h e1
        | cons _ _ => rfl
      obtain ⟨hp, hq⟩ := cutAt_pos s' (by omega)
      obtain ⟨fn, tmps, assign, body, hy, hR⟩ := hY pre (s'.extract 0 (cutAt s')) wr hJs (by rw [hx, linesB_cons _ hz]; simp)
      have h1 := indexByte_lt s'.data.toList 10
      have h2 : s'.data.toList.length = s'.size := rfl
      have hL := Aside0.mk (linesB_cons _ hz)
      have hX := Aside0.mk hx
      have HB0 := Aside0.mk hb
      have hs := Aside0.mk (Nat.le_trans (Nat.le_refl _) hle)
      obtain ⟨c, hc⟩ : ∃ c, c = cutAt s' := ⟨_, rfl⟩
      have hIx := index_one s' 10
      have hJJ := Aside0.mk hJs
      have hsz : s'.size ≤ 9223372036854775807 := by omega
      have hcs : (cutAt s' = s'.size ∧ Lib.indexByte s'.data.toList 10 = -1) ∨ (Lib.indexByte s'.data.toList 10 = (cutAt s' : Int) - 1) := by
        unfold cutAt
        split <;> omega
      rw [← hc] at hp hq hy hL hcs hR
      clear h1 h2 hx hc hJs hle
      rcases hcs with ⟨hcc, hi⟩ | hi
      · rw [hi] at hIx
        subst hcc
        rw [ByteArray.extract_zero_size] at hy hR hL
        have he : s'.extract s'.size s'.size = ByteArray.empty := ByteArray.size_eq_zero_iff.1 (by rw [ByteArray.size_extract]; omega)
        rw [he] at hL
        clear he
        have HI := Aside0.mk hIx
        clear hIx hi
        gi_wp2_with (refine ⟨trivial, ?_⟩; gi_at_call 31; refine (callsIn_wide.2 (HI.out _)).mono ?_; rintro e w' ⟨rfl, rfl⟩)
        refine hR.mono ?_
        rintro e W3 ⟨rfl, hJ3, hB3⟩
        have hb3 : Boxed W3 B 9 (.string s') := Eq.trans hB3 hb
        have hc3 := hb3.cell
        have hf3 := hb3.frozen
        have HJ := Aside0.mk hJ3
        have HB := Aside0.mk hb3
        clear hJ3 hB3 hb3 hc hf hb
        gi_wp2
        go_roundw
        case rel => exact ⟨pre ++ [s'], ByteArray.empty, Nat.zero_le _, by rw [hX.out, hL.out]; simp, HB.out.set _, hJ _ _ _ HJ.out⟩
        case measure => rw [leftC_eq (HB.out.set _), leftC_eq HB0.out]; exact hp
      · rw [hi] at hIx
        have HI := Aside0.mk hIx
        clear hIx hi
        have f1 : (0 : Int) ≤ (c : Int) - 1 := by omega
        have f2 : (c : Int) ≤ 9223372036854775807 := by omega
        gi_wp2_with (refine ⟨trivial, ?_⟩; gi_at_call 31; refine (callsIn_wide.2 (HI.out _)).mono ?_; rintro e w' ⟨rfl, rfl⟩)
        refine hR.mono ?_
        rintro e W3 ⟨rfl, hJ3, hB3⟩
        have hb3 : Boxed W3 B 9 (.string s') := Eq.trans hB3 hb
        have hc3 := hb3.cell
        have hf3 := hb3.frozen
        have HJ := Aside0.mk hJ3
        have HB := Aside0.mk hb3
        clear hJ3 hB3 hb3 hc hf hb
        gi_wp2
        go_roundw
        case rel => exact ⟨pre ++ [s'.extract 0 c], s'.extract c s'.size, by have h_ := hs.out; rw [ByteArray.size_extract, Nat.min_self]; omega, by rw [hX.out, hL.out]; simp, HB.out.set _, hJ _ _ _ HJ.out⟩
        case measure => rw [leftC_eq (HB.out.set _), leftC_eq HB0.out, ByteArray.size_extract, Nat.min_self]; omega
theorem each_cell (n : Nat) (hn : 1 ≤ n) (B : Nat) (s : ByteArray) (hs : s.size ≤ 9223372036854775807) :
    SeqCell Fence.wide n Try.prog 30 #[.pointer (some ⟨B, 0, none⟩)] (fun x : ByteArray => #[Value.string x]) B (linesB s) (fun W => Boxed W B 9 (.string s)) :=
  fun l J W hB hJ hY h0 => each1_in n hn l B s hs J hJ hY W hB h0
set_option maxHeartbeats 1000000 in
theorem each_in (n : Nat) (s : ByteArray) (w : World) :
    CallsIn Fence.wide n Try.prog 23 #[.string s] w fun e w' => e = .returned (.func (.func 30) #[] #[.pointer (some ⟨w.heap.size, 0, none⟩)]) ∧ w' = w.alloc (.cells #[.string s] 9) := by
  refine callsIn_of_wp Try.func23 rfl trivial ?_ rfl
  simp only [Try.ntmps23, List.size_toArray, List.length_cons, List.length_nil, Nat.reduceAdd, Nat.reduceSub, Array.replicate_succ, Array.replicate_zero, List.push_toArray, List.append_toArray, List.nil_append, List.cons_append]
  gi_wp2
  go_ret
  exact ⟨rfl, rfl⟩
theorem linesB_len (s : ByteArray) : (linesB s).length ≤ s.size := by
  generalize hn : s.size = n
  induction n using Nat.strongRecOn generalizing s with
  | _ n ih =>
    by_cases h : s.size = 0
    · rw [linesB_nil s h]; simp
    · have hp := cutAt_pos s (by omega)
      rw [linesB_cons s h, List.length_cons]
      have := ih (s.extract (cutAt s) s.size).size (by rw [ByteArray.size_extract, Nat.min_self]; omega) _ rfl
      rw [ByteArray.size_extract, Nat.min_self] at this
      omega
set_option maxRecDepth 100000 in
set_option maxHeartbeats 2000000 in
theorem appendSeq_in (n : Nat) (hn : 3 ≤ n) (B : Nat) (s : ByteArray) (hs : s.size ≤ 4398046511104) (w : World) (hB : Boxed w B 9 (.string s)) :
    CallsIn Fence.wide n Try.prog 29 #[.slice none 0 0, .func (.func 30) #[] #[.pointer (some ⟨B, 0, none⟩)]] w fun e W' => ∃ v, e = .returned v ∧ W'.ownsRow w.heap.size 9 1 v (linesB s).length ((linesB s).map Value.string) ∧ Below B w W' := by
  have h1 : 1 ≤ n := by omega
  have hlen := linesB_len s
  obtain ⟨i0, hi, hz0, hz1, hz2⟩ := info_parts info9
  refine callsIn_of_wp_marks Try.func29 rfl trivial ?_ rfl
  simp only [Try.ntmps29, List.size_toArray, List.length_cons, List.length_nil, Nat.reduceAdd, Nat.reduceSub, Array.replicate_succ, Array.replicate_zero, List.push_toArray, List.append_toArray, List.nil_append, List.cons_append]
  gi_wp2
  have hlt := hB.lt
  have bO := Boxed.new w 23 (.slice none 0 0)
  have hB0 : Below B w (w.alloc (.cells #[.slice none 0 0] 23)) := (Below.refl _ w).alloc (by omega) _
  have own_b : ∀ {W : World} {v : Value} {k : Nat} {xs : List Value}, W.ownsRow w.heap.size 9 1 v k xs → some B ≠ v.ownBlock := by
    intro W v k xs h
    rcases h.2 with ⟨rfl, _⟩ | ⟨g, cap, cur, rfl, hg, _⟩
    · simp [Value.ownBlock]
    · intro e'
      obtain rfl : B = g := by simpa [Value.ownBlock] using e'
      omega
  refine wpIn_rangeFunc_cell rfl h1 (gf := 30) (lb := #[.pointer (some ⟨B, 0, none⟩)]) rfl trivial (enters_of Try.func30 (by kernel_rfl) rfl)
    (each_cell (n - 1) (by omega) B s (by omega)) (by simp; omega) (fun W hW => Eq.trans hW (hB.alloc _)) (fun _ => rfl)
    (fun pre W => (∃ v, Boxed W w.heap.size 23 v ∧ W.ownsRow w.heap.size 9 1 v pre.length (pre.map Value.string) ∧ True) ∧ Below B w W)
    (OwnFrom.and (Own.from (holdsRow_own w.heap.size w.heap.size 23 9 1 (fun pre : List ByteArray => pre.length) (fun pre => pre.map Value.string) (fun pre v => True)) _) (ownFrom_below (by omega) (by simp; omega)))
    (fun pre W u h => ⟨by obtain ⟨v, a, b, c⟩ := h.1; exact ⟨v, a.kept (grownBy_setCell' W B u) (by simp; omega), b.kept (grownBy_setCell' W B u) (.inr (own_b b).symm), c⟩, h.2.setCell (p := ⟨B, 0, none⟩) (Nat.le_refl _) _⟩)
    ⟨⟨_, bO, World.ownsRow_nil _ _ _ _, trivial⟩, hB0⟩
    (fun x => { tmps := #[.slice none 0 0, .func (.func 30) #[] #[.pointer (some ⟨B, 0, none⟩)], .pointer (some ⟨w.heap.size, 0, none⟩), undef, .slice none 0 0, .string x, .func (.func 30) #[] #[.pointer (some ⟨B, 0, none⟩)], .string x, undef, undef, undef, undef, undef], defers := [] }) ?assign ?body ?done
  case assign =>
    intro l x W K hK
    gi_wp2
    exact hK
  case body =>
    rintro l pre x W ⟨⟨v, hv, hrow, _⟩, hb⟩ hlt2
    have hc := hv.cell
    have hsz := hb.size
    have hml : (linesB s).length ≤ maxLen := by unfold maxLen; omega
    gi_wp2_with (gi_at_builtin; refine wpListIn_append_own _ rfl _ _ 23 rfl w.heap.size 9 i0 (.string ⟨#[]⟩) 1 16 Try.underlying23 hi hz0 hz1 hz2 rfl (by decide) _ _ _ rfl (hrow.alloc _) ⟨W.heap.size, 0, none⟩ 1 1 [.string x] rfl rfl (cell_one_new _ _ _) (by simp [Value.oneCell']) (by omega) (by omega) (by simp; omega) ?_; intro v' w1 hown' hgrow _; obtain ⟨g', cap', rfl⟩ := ownsRow_succ hown'; obtain ⟨hv1, hv2, hr2, hk2, hb2⟩ := hv.appended (by decide) hrow (by omega) (Nat.le_refl _) hown' hgrow; have hc1 := hv1.cell; have hf1 := hv1.frozen)
    exact ⟨hk2, hb2.block B hlt, ⟨_, hv2, by simpa using hr2, trivial⟩, hb.trans (hb2.mono (by omega))⟩
  case done =>
    rintro D W hD ⟨⟨v, hv, hrow, _⟩, hb⟩ hK
    have hc := hv.cell
    gi_wp2
    refine ⟨by simp, .inl ⟨_, _, rfl, run_takeDeferred hK, ?_⟩⟩
    exact ⟨_, results_tmp rfl _ _ _, v, rfl, ownsRow_putObj hrow _ hK rfl, hb.trans (belowK_b (w := w) (by omega) W D _ _ (by simp at hD; omega) hK rfl rfl)⟩
set_option maxHeartbeats 1000000 in
theorem collect_in (n : Nat) (hn : 4 ≤ n) (B : Nat) (s : ByteArray) (hs : s.size ≤ 4398046511104) (w : World) (hB : Boxed w B 9 (.string s)) :
    CallsIn Fence.wide n Try.prog 22 #[.func (.func 30) #[] #[.pointer (some ⟨B, 0, none⟩)]] w fun e W' => ∃ v, e = .returned v ∧ W'.ownsRow w.heap.size 9 1 v (linesB s).length ((linesB s).map Value.string) ∧ Below B w W' := by
  have hn1 : 1 ≤ n := by omega
  refine callsIn_of_wp Try.func22 rfl trivial ?_ rfl
  simp only [Try.ntmps22, List.size_toArray, List.length_cons, List.length_nil, Nat.reduceAdd, Nat.reduceSub, Array.replicate_succ, Array.replicate_zero, List.push_toArray, List.append_toArray, List.nil_append, List.cons_append]
  gi_wp2_with (refine ⟨trivial, ?_⟩; gi_at_call 29; refine (appendSeq_in (n - 1) (by omega) B s hs _ hB).mono ?_; rintro e w' ⟨v, rfl, ho, hb⟩; have HO := Aside0.mk ho; have HBb := Aside0.mk hb; clear ho hb)
  go_ret
  exact ⟨_, rfl, HO.out, HBb.out⟩
def lines_Split.f (a0 : ByteArray) : Option (List ByteArray) := if a0.size ≤ 4398046511104 then some (linesB a0) else none
theorem own_strs {w : World} {base : Nat} {v : Value} {xs : List ByteArray} (h : w.ownsRow base 9 1 v xs.length (xs.map Value.string)) : Kd.R Kd.string 9 w base (fun _ => True) v xs :=
  ⟨fun _ _ => trivial, _, h, Kd.reps_scalar xs⟩
set_option maxHeartbeats 1000000 in
theorem lines_Split.calls (a0 : ByteArray) (r : List ByteArray) (w : World) (h : lines_Split.f a0 = some r) :
    Calls Try.prog 11 #[.string a0] w fun e w' => ∃ v0_ : Value, e = .returned (v0_) ∧ Kd.R Kd.string 9 w' w.heap.size (fun _ => True) v0_ r ∧ Below w.heap.size w w' := by
  unfold lines_Split.f at h
  by_cases hs : a0.size ≤ 4398046511104
  · rw [if_pos hs] at h
    obtain rfl := Option.some.inj h
    refine (callsIn_wide (n := 8)).1 ?_
    refine callsIn_of_wp Try.func11 rfl trivial ?_ rfl
    simp only [Try.ntmps11, List.size_toArray, List.length_cons, List.length_nil, Nat.reduceAdd, Nat.reduceSub, Array.replicate_succ, Array.replicate_zero, List.push_toArray, List.append_toArray, List.nil_append, List.cons_append]
    have hn := Boxed.new w 9 (.string a0)
    clear h
    gi_wp2_with (first
      | (refine ⟨trivial, ?_⟩; gi_at_call 23; refine (each_in _ a0 _).mono ?_; rintro e w' ⟨rfl, rfl⟩)
      | (refine ⟨trivial, ?_⟩; gi_at_call 22; refine (collect_in _ (by omega) w.heap.size a0 hs _ hn).mono ?_; rintro e w' ⟨v, rfl, ho, hb⟩; have HO := Aside0.mk ho; have HBb := Aside0.mk hb; clear ho hb))
    go_ret
    refine ⟨_, rfl, Kd.R_lower (own_strs HO.out) (by simp), ?_⟩
    exact ((Below.refl _ w).alloc (Nat.le_refl _) _).trans HBb.out
  · rw [if_neg hs] at h; cases h
def lines_Count.f (a0 : ByteArray) : Option Int := if a0.size ≤ 4398046511104 then some ((linesB a0).length : Int) else none
set_option maxRecDepth 100000 in
set_option maxHeartbeats 2000000 in
theorem lines_Count.calls (a0 : ByteArray) (r : Int) (w : World) (h : lines_Count.f a0 = some r) :
    Calls Try.prog 12 #[.string a0] w fun e w' => e = .returned (.int .i64 r) ∧ Below w.heap.size w w' := by
  unfold lines_Count.f at h
  by_cases hs : a0.size ≤ 4398046511104
  · rw [if_pos hs] at h
    obtain rfl := Option.some.inj h
    clear h
    have hlen := linesB_len a0
    refine (callsIn_wide (n := 8)).1 ?_
    refine callsIn_of_wp_marks Try.func12 rfl trivial ?_ rfl
    simp only [Try.ntmps12, List.size_toArray, List.length_cons, List.length_nil, Nat.reduceAdd, Nat.reduceSub, Array.replicate_succ, Array.replicate_zero, List.push_toArray, List.append_toArray, List.nil_append, List.cons_append]
    gi_wp2_with (refine ⟨trivial, ?_⟩; gi_at_call 23; refine (each_in _ a0 _).mono ?_; rintro e w' ⟨rfl, rfl⟩)
    have bN := Boxed.new w 3 (.int .i64 0)
    have hn := Boxed.new (w.alloc (.cells #[.int .i64 0] 3)) 9 (.string a0)
    rw [World.size_alloc] at hn
    have hB0 : Below w.heap.size w ((w.alloc (.cells #[.int .i64 0] 3)).alloc (.cells #[.string a0] 9)) := ((Below.refl _ w).alloc (Nat.le_refl _) _).alloc (by simp) _
    refine wpIn_rangeFunc_cell rfl (by omega) (gf := 30) (lb := #[.pointer (some ⟨w.heap.size + 1, 0, none⟩)]) rfl trivial (enters_of Try.func30 (by kernel_rfl) rfl)
      (each_cell _ (by omega) (w.heap.size + 1) a0 (by omega)) (by simp) (fun W hW => Eq.trans hW hn) (fun _ => rfl)
      (fun pre W => Boxed W w.heap.size 3 (.int .i64 (pre.length : Int)) ∧ Below w.heap.size w W)
      (OwnFrom.and (Own.from (fun s A B row hs hg hr => hs.kept hg (fun e' => by obtain ⟨o, ho, hc⟩ := hr _ e'.symm; rw [show A.heap[w.heap.size]? = _ from hs] at ho; cases ho; cases hc)) _) (ownFrom_below (Nat.le_refl _) (by simp; omega)))
      (fun pre W u h => ⟨h.1.kept (grownBy_setCell' W _ u) (by simp), h.2.setCell (p := ⟨w.heap.size + 1, 0, none⟩) (by simp) _⟩)
      ⟨bN.alloc _, hB0⟩
      (fun x => { tmps := #[.string a0, undef, .int .i64 0, .pointer (some ⟨w.heap.size, 0, none⟩), .string a0, .func (.func 30) #[] #[.pointer (some ⟨w.heap.size + 1, 0, none⟩)], .string x, undef, undef, undef], defers := [] }) ?assign ?body ?done
    case assign =>
      intro l x W K hK
      gi_wp2
      simpa using hK
    case body =>
      rintro l pre x W ⟨hv, hb⟩ hlt2
      have hc := hv.cell
      have hf := hv.frozen
      have g1 : (pre.length : Int) + 1 ≤ 9223372036854775807 := by omega
      gi_wp2
      exact ⟨KeepsOthers.setCell _ _ _, Below.heap_setCell _ _ _ _ (by show _ ≠ w.heap.size; omega), by have := hv.set (.int .i64 ((pre.length : Int) + 1)); rw [List.length_append]; exact this, hb.setCell (p := ⟨w.heap.size, 0, none⟩) (Nat.le_refl _) _⟩
    case done =>
      rintro D W hD ⟨hv, hb⟩ hK
      have hc := hv.cell
      gi_wp2
      refine ⟨by simp, .inl ⟨_, _, rfl, run_takeDeferred hK, ?_⟩⟩
      exact ⟨_, results_tmp rfl _ _ _, rfl, hb.trans (belowK_b (w := w) (by omega) W D _ _ (by simp at hD; omega) hK rfl rfl)⟩
  · rw [if_neg hs] at h; cases h
end Go.Proofs.Ytplclofakoffmaa.Pr
