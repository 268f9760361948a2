/-
Several plain texts in one.
-/
import Derived.Test.YtoaijganmfijmaaK1
import Derived.Test.YtoaijganmfijmaaD5
import Derived.Test.YtoaijganmfijmaaD6a
import Derived.Test.YtoaijganmfijmaaK0
/-
What package hunk makes of edits: group and Make, as plain Lean.
-/
namespace Go.Proofs.Ytoaijganmfijmaa.Pr
open Go.RowKit Go.Proofs.YtoaijganmfijmaaW.PrintWords Go.Proofs.YtoaijganmfijmaaW.PrintLast Go.Proofs.YtoaijganmfijmaaW.PrintMore
set_option linter.unusedVariables false
set_option linter.unusedSimpArgs false
abbrev Hk := S41
def blks (a : List ByteArray) (t : Nat) : List Ed → List Blk
 | [] => []
 | e :: l => ⟨(a.take e.f0.toNat).drop t, (a.take (e.f0 + e.f1).toNat).drop e.f0.toNat, e.f2⟩ :: blks a (e.f0 + e.f1).toNat l
def endE (p : Ed) : List Ed → Int
 | [] => p.f0 + p.f1
 | e :: l => endE e l
def diffE : List Ed → Int
 | [] => 0
 | e :: l => ((e.f2.length : Int) - e.f1) + diffE l
theorem okFrom_last {many : Int} : ∀ (l : List Ed) (p : Ed) (fr : Int), okFrom fr many (p :: l) = true → fr ≤ endE p l ∧ p.f0 + p.f1 ≤ endE p l ∧ endE p l ≤ many
 | [], p, fr, h => by obtain ⟨c1, c2, c3, c4, _, _⟩ := okFrom_cons h; simp only [endE]; omega
 | e :: l, p, fr, h => by
  obtain ⟨c1, c2, c3, c4, _, h'⟩ := okFrom_cons h
  have := okFrom_last l e _ h'
  simp only [endE]; omega
theorem endE_get : ∀ (l : List Ed) (p : Ed), endE p l = ((p :: l)[l.length]'(by simp)).f0 + ((p :: l)[l.length]'(by simp)).f1
 | [], p => rfl
 | e :: l, p => by have := endE_get l e; simpa [endE] using this
theorem blks_ok (a : List ByteArray) : ∀ (l : List Ed) (fr : Int) (t : Nat) (first : Bool), (t : Int) ≤ fr → (first = true ∨ (t : Int) < fr) → okFrom fr a.length l = true → BOk first (blks a t l)
 | [], fr, t, first, h, hf, ho => trivial
 | e :: l, fr, t, first, h, hf, ho => by
  obtain ⟨c1, c2, c3, c4, c5, ho'⟩ := okFrom_cons ho
  refine ⟨?_, ?_, blks_ok a l _ _ false (by omega) (Or.inr (by omega)) ho'⟩
  ·by_cases hi : e.f2 = []
   ·left
    intro hd
    have h2 := congrArg List.length hd
    simp only [List.length_drop, List.length_take, List.length_nil] at h2
    exact c5 ⟨by omega, hi⟩
   ·exact Or.inr hi
  ·rcases hf with hf | hf
   ·exact Or.inl hf
   ·right
    intro hk
    have h2 := congrArg List.length hk
    simp only [List.length_drop, List.length_take, List.length_nil] at h2
    omega
theorem blks_counts (a : List ByteArray) : ∀ (l : List Ed) (p : Ed) (fr : Int) (t : Nat), (t : Int) ≤ fr → okFrom fr a.length (p :: l) = true →
  (oldN (blks a t (p :: l)) : Int) = endE p l - t ∧ (newN (blks a t (p :: l)) : Int) = endE p l - t + diffE (p :: l)
 | [], p, fr, t, h, ho => by
  obtain ⟨c1, c2, c3, c4, c5, ho'⟩ := okFrom_cons ho
  simp only [blks, oldN, newN, endE, diffE, List.length_drop, List.length_take]
  omega
 | e :: l, p, fr, t, h, ho => by
  obtain ⟨c1, c2, c3, c4, c5, ho'⟩ := okFrom_cons ho
  have ih := blks_counts a l e _ (p.f0 + p.f1).toNat (by omega) ho'
  rw [blks]
  simp only [oldN, newN, endE, List.length_drop, List.length_take]
  rw [diffE]
  omega
def fromH (p : Ed) (ar : Int) : Nat := (p.f0 - ar).toNat
def toH (a : List ByteArray) (p : Ed) (l : List Ed) (ar : Int) : Nat := min a.length (endE p l + ar).toNat
def linesH (a : List ByteArray) (ar : Int) (p : Ed) (l : List Ed) : List ByteArray := blkLines (blks a (fromH p ar) (p :: l)) ((a.take (toH a p l ar)).drop (endE p l).toNat)
def hunkOf (a : List ByteArray) (ar more : Int) (p : Ed) (l : List Ed) : Hk :=
 ⟨(fromH p ar : Int), (toH a p l ar : Int) - fromH p ar, fromH p ar + more, (toH a p l ar : Int) - fromH p ar + diffE (p :: l), linesH a ar p l⟩
theorem tail_len (a : List ByteArray) (ar : Int) (p : Ed) (l : List Ed) (fr : Int) (har : 0 ≤ ar) (hf : 0 ≤ fr) (ho : okFrom fr a.length (p :: l) = true) :
  ((((a.take (toH a p l ar)).drop (endE p l).toNat).length : Nat) : Int) = toH a p l ar - endE p l ∧ endE p l ≤ toH a p l ar ∧ toH a p l ar ≤ a.length := by
 have h := okFrom_last l p fr ho
 obtain ⟨c1, c2, c3, c4, c5, ho'⟩ := okFrom_cons ho
 simp only [List.length_drop, List.length_take, toH]
 omega
theorem cntL_linesH (a : List ByteArray) (ar : Int) (p : Ed) (l : List Ed) (fr : Int) (har : 0 ≤ ar) (hf : 0 ≤ fr) (ho : okFrom fr a.length (p :: l) = true) :
  cntL false 0 0 (linesH a ar p l) = ((toH a p l ar : Int) - fromH p ar, (toH a p l ar : Int) - fromH p ar + diffE (p :: l), true) := by
 obtain ⟨c1, c2, c3, c4, c5, ho'⟩ := okFrom_cons ho
 have ho0 : okFrom p.f0 a.length (p :: l) = true := by
  simp only [okFrom, Bool.and_eq_true, decide_eq_true_eq]
  exact ⟨⟨Int.le_refl _, c2, c3, c4, c5⟩, ho'⟩
 have hft : (fromH p ar : Int) ≤ p.f0 := by unfold fromH; omega
 have h1 := blks_ok a (p :: l) p.f0 (fromH p ar) true hft (Or.inl rfl) ho0
 have h2 := blks_counts a l p p.f0 (fromH p ar) hft ho0
 have h3 := tail_len a ar p l fr har hf ho
 rw [linesH, cntL_blk _ _ true false _ _ h1 (fun _ => rfl)]
 congr 1
 ·omega
 ·congr 1; omega
theorem Group_l0 (a : List ByteArray) (g : List Ed) (ha : a.length ≤ 1099511627776) (hg : g.length ≤ 1099511627776) (hsa : ∀ s ∈ a, s.size ≤ 4611686018427387904) (hsg : ∀ e ∈ g, ∀ s ∈ e.f2, s.size ≤ 4611686018427387904) (q0 q1 q2 q3 : Int) (tw : Nat) (hto : tw ≤ a.length) (G : List ByteArray) (hG : G.length ≤ 1099511627776) (c : Int × Int × Bool) (hc : cntL false 0 0 G = c) :
  ∀ (d i t : Nat) (fr : Int) (en : Nat) (out : List ByteArray), g.length - i = d → i ≤ g.length → 0 ≤ fr → (t : Int) ≤ fr → t ≤ a.length → okFrom fr a.length (g.drop i) = true → en ≤ tw → (match g.drop i with | [] => (en : Int) = t | p :: l => (en : Int) = endE p l) →
   out ++ blkLines (blks a t (g.drop i)) ((a.take tw).drop en) = G → insE (g.drop i) ≤ 1099511627776 →
  Ev (fun k => hunk_group.l0 k a (tw : Int) (t : Int) g (g.length : Int) (i : Int) q0 q1 q2 q3 out) (q0, c.1, q2, c.2.1, G) := by
 intro d
 induction d with
 | zero =>
  intro i t fr en out hd hi hf0 hf ht ho hen hm hG2 hb
  refine Ev.step (fun _ => hunk_group.l0.eq_2 ..) ?_
  rw [List.drop_of_length_le (by omega : g.length ≤ i)] at *
  have hm' : (en : Int) = t := hm
  have hent : en = t := by omega
  subst hent
  simp only [if_neg (show ¬ (i : Int) < (g.length : Int) by omega), if_pos (show 0 ≤ (en : Int) by omega), if_pos (show (en : Int) ≤ (tw : Int) by omega), if_pos (show (tw : Int) ≤ (a.length : Int) by omega), Int.toNat_natCast]
  refine Ev.bind (signed_ev 32 32 enc32 _ (fun s hm => hsa s (List.mem_of_mem_take (List.mem_of_mem_drop hm))) (by rw [List.length_drop, List.length_take]; omega)) ?_
  have e : out ++ sgs 32 ((a.take tw).drop en) = G := hG2
  have hL := congrArg List.length e
  rw [List.length_append] at hL
  simp only [if_pos (show out.length + (sgs 32 ((a.take tw).drop en)).length < 8796093022208 by omega), e, Option.bind_some]
  refine Ev.bind (count_ev G hG) ?_
  rw [hc]
  exact Ev.now _
 | succ d ih =>
  intro i t fr en out hd hi hf0 hf ht ho hen hm hG2 hb
  refine Ev.step (fun _ => hunk_group.l0.eq_2 ..) ?_
  have h0 : i < g.length := by omega
  rw [List.drop_eq_getElem_cons h0] at ho hm hG2 hb
  obtain ⟨c1, c2, c3, c4, c5, ho'⟩ := okFrom_cons ho
  have w1 : wrap64 (g[i].f0 + g[i].f1) = g[i].f0 + g[i].f1 := w_in (by omega) (by omega)
  have hmem : g[i] ∈ g := List.getElem_mem h0
  simp only [insE] at hb
  simp only [if_pos (show (i : Int) < (g.length : Int) by omega), if_pos (show 0 ≤ (i : Int) by omega), rdE_at h0, w_succ h0 (show g.length ≤ 4611686018427387904 by omega), if_pos (show 0 ≤ (t : Int) by omega), if_pos (show (t : Int) ≤ g[i].f0 by omega), if_pos c3, w1,
   if_pos (show 0 ≤ g[i].f0 by omega), if_pos (show g[i].f0 ≤ g[i].f0 + g[i].f1 by omega), if_pos (show g[i].f0 + g[i].f1 ≤ (a.length : Int) by omega), Int.toNat_natCast]
  refine Ev.bind (signed_ev 32 32 enc32 _ (fun s hm => hsa s (List.mem_of_mem_take (List.mem_of_mem_drop hm))) (by rw [List.length_drop, List.length_take]; omega)) ?_
  refine Ev.bind (signed_ev 45 45 enc45 _ (fun s hm => hsa s (List.mem_of_mem_take (List.mem_of_mem_drop hm))) (by rw [List.length_drop, List.length_take]; omega)) ?_
  refine Ev.bind (signed_ev 43 43 enc43 _ (fun s hm => hsg _ hmem s hm) (by omega)) ?_
  have hcat : ([out, sgs 32 ((a.take g[i].f0.toNat).drop t), sgs 45 ((a.take (g[i].f0 + g[i].f1).toNat).drop g[i].f0.toNat), sgs 43 g[i].f2] : List (List ByteArray)).flatten
    = out ++ (sgs 32 ((a.take g[i].f0.toNat).drop t) ++ (sgs 45 ((a.take (g[i].f0 + g[i].f1).toNat).drop g[i].f0.toNat) ++ sgs 43 g[i].f2)) := by simp
  have hL := congrArg List.length hG2
  simp only [blks, blkLines, List.length_append] at hL
  simp only [slices_Concat_string_string.f, hcat]
  rw [if_pos (by simp only [List.length_append]; omega)]
  simp only [Option.bind_some]
  rw [show g[i].f0 + g[i].f1 = (((g[i].f0 + g[i].f1).toNat : Nat) : Int) by omega]
  refine ih (i + 1) (g[i].f0 + g[i].f1).toNat (g[i].f0 + g[i].f1 + 1) en _ (by omega) (by omega) (by omega) (by omega) (by omega) ho' hen ?_ ?_ (by omega)
  ·cases hq : g.drop (i + 1) with
   | nil => rw [hq] at hm; simp only [endE] at hm; show (en : Int) = _; omega
   | cons p l => rw [hq] at hm; exact hm
  ·rw [← hG2]
   simp only [blks, blkLines, List.append_assoc, Int.toNat_natCast]
theorem Group_ev (a : List ByteArray) (p : Ed) (l : List Ed) (ar more fr : Int) (ha : a.length ≤ 274877906944) (hg : l.length ≤ 274877906944) (hsa : ∀ s ∈ a, s.size ≤ 4611686018427387904) (hsg : ∀ e ∈ p :: l, ∀ s ∈ e.f2, s.size ≤ 4611686018427387904)
  (har : 0 ≤ ar) (har2 : ar ≤ 1000) (hm0 : -4398046511104 ≤ more) (hm1 : more ≤ 4398046511104) (hf : 0 ≤ fr) (ho : okFrom fr a.length (p :: l) = true) (hi : insE (p :: l) ≤ 274877906944) (hdf : diffE (p :: l) ≤ 274877906944) :
  Ev (fun k => hunk_group.f k a (p :: l) ar more) ((hunkOf a ar more p l).f0, (hunkOf a ar more p l).f1, (hunkOf a ar more p l).f2, (hunkOf a ar more p l).f3, (hunkOf a ar more p l).f4) := by
 have hlast := okFrom_last l p fr ho
 obtain ⟨c1, c2, c3, c4, c5, ho'⟩ := okFrom_cons ho
 have ho0 : okFrom p.f0 a.length (p :: l) = true := by
  simp only [okFrom, Bool.and_eq_true, decide_eq_true_eq]
  exact ⟨⟨Int.le_refl _, c2, c3, c4, c5⟩, ho'⟩
 have hft : (fromH p ar : Int) ≤ p.f0 := by unfold fromH; omega
 have hco := blks_counts a l p p.f0 (fromH p ar) hft ho0
 have htl := tail_len a ar p l fr har hf ho
 have hLen : ((p :: l : List Ed).length : Int) = (l.length : Int) + 1 := by simp
 have w0 : wrap64 (((p :: l : List Ed).length : Int) - 1) = ((l.length : Nat) : Int) := by rw [w_in (by omega) (by omega)]; omega
 have hlt : l.length < (p :: l).length := by simp
 have hge := endE_get l p
 have hr0 : rd_T53 (p :: l) 0 = p := rfl
 unfold hunk_group.f
 simp only [w0, if_pos (show 0 ≤ ((l.length : Nat) : Int) by omega), if_pos (show ((l.length : Nat) : Int) < (((p :: l).length : Nat) : Int) by omega), if_pos (show 0 < (((p :: l).length : Nat) : Int) by omega), rdE_at hlt, hr0]
 rw [w_in (x := (p :: l)[l.length].f0 + (p :: l)[l.length].f1) (by omega) (by omega), ← hge, w_in (x := endE p l + ar) (by omega) (by omega), w_in (x := p.f0 - ar) (by omega) (by omega)]
 have e1 : mx 0 (p.f0 - ar) = (fromH p ar : Int) := by unfold mx fromH; omega
 have e2 : mn (a.length : Int) (endE p l + ar) = (toH a p l ar : Int) := by unfold mn toH; omega
 rw [e1, e2, w_in (x := (fromH p ar : Int) + more) (by omega) (by omega)]
 have hlen : (linesH a ar p l).length ≤ 1099511627776 := by
  have h := blkLines_len (blks a (fromH p ar) (p :: l)) ((a.take (toH a p l ar)).drop (endE p l).toNat)
  unfold linesH
  omega
 have hcn := cntL_linesH a ar p l fr har hf ho
 have h := Group_l0 a (p :: l) (by omega) (by simp only [List.length_cons]; omega) hsa hsg (fromH p ar) 0 (fromH p ar + more) 0 (toH a p l ar) (by omega) (linesH a ar p l) hlen _ hcn _ 0 (fromH p ar) p.f0 (endE p l).toNat [] rfl (by omega) (by omega) hft (by omega) ho0 (by omega) (by show (_ : Int) = endE p l; omega) rfl (by rw [List.drop_zero]; omega)
 exact h
end Go.Proofs.Ytoaijganmfijmaa.Pr
-- shrunk
/-
What package hunk's Make makes of edits, as plain Lean, and what its hunks tell.
-/
namespace Go.Proofs.Ytoaijganmfijmaa.Pr
open Go.RowKit Go.Proofs.YtoaijganmfijmaaW.PrintWords Go.Proofs.YtoaijganmfijmaaW.PrintLast Go.Proofs.YtoaijganmfijmaaW.PrintMore
set_option linter.unusedVariables false
set_option linter.unusedSimpArgs false
def grp (ar : Int) (p : Ed) : List Ed → List Ed × List Ed
 | [] => ([], [])
 | e :: l => if e.f0 - p.f0 - p.f1 ≤ 2 * ar then (e :: (grp ar e l).1, (grp ar e l).2) else ([], e :: l)
theorem grp_app (ar : Int) : ∀ (l : List Ed) (p : Ed), (grp ar p l).1 ++ (grp ar p l).2 = l
 | [], p => rfl
 | e :: l, p => by
  have ih := grp_app ar l e
  rw [grp]
  split
  ·show e :: ((grp ar e l).1 ++ (grp ar e l).2) = _
   rw [ih]
  ·rfl
theorem grp_len (ar : Int) (l : List Ed) (p : Ed) : (grp ar p l).2.length ≤ l.length := by
 have h := congrArg List.length (grp_app ar l p)
 rw [List.length_append] at h
 omega
theorem grp_far (ar : Int) : ∀ (l : List Ed) (p q : Ed) (r : List Ed), (grp ar p l).2 = q :: r → 2 * ar < q.f0 - endE p (grp ar p l).1
 | [], p, q, r, h => by simp [grp] at h
 | e :: l, p, q, r, h => by
  rw [grp] at h ⊢
  by_cases c : e.f0 - p.f0 - p.f1 ≤ 2 * ar
  ·rw [if_pos c] at h ⊢
   have ih := grp_far ar l e q r h
   simpa [endE] using ih
  ·rw [if_neg c] at h ⊢
   simp only [List.cons.injEq] at h
   obtain ⟨rfl, _⟩ := h
   simp only [endE]; omega
def makeH (a : List ByteArray) (ar : Int) (more : Int) : List Ed → List Hk
 | [] => []
 | p :: l => hunkOf a ar more p (grp ar p l).1 :: makeH a ar (more + diffE (p :: (grp ar p l).1)) (grp ar p l).2
termination_by l => l.length
decreasing_by
 have := grp_len ar l p
 simp only [List.length_cons]; omega
theorem okFrom_split {many : Int} : ∀ (l : List Ed) (p : Ed) (y : List Ed) (fr : Int), okFrom fr many (p :: (l ++ y)) = true → okFrom fr many (p :: l) = true ∧ okFrom (endE p l + 1) many y = true
 | [], p, y, fr, h => by
  obtain ⟨c1, c2, c3, c4, c5, h'⟩ := okFrom_cons h
  refine ⟨?_, h'⟩
  simp only [okFrom, Bool.and_true, decide_eq_true_eq]
  exact ⟨c1, c2, c3, c4, c5⟩
 | e :: l, p, y, fr, h => by
  obtain ⟨c1, c2, c3, c4, c5, h'⟩ := okFrom_cons h
  have ih := okFrom_split l e y _ h'
  refine ⟨?_, ih.2⟩
  rw [okFrom, ih.1, Bool.and_true, decide_eq_true_eq]
  exact ⟨c1, c2, c3, c4, c5⟩
def delE : List Ed → Int
 | [] => 0
 | e :: l => e.f1 + delE l
theorem diffE_eq : ∀ l, diffE l = (insE l : Int) - delE l
 | [] => rfl
 | e :: l => by have := diffE_eq l; simp only [diffE, insE, delE]; push_cast; omega
theorem insE_app : ∀ x y, insE (x ++ y) = insE x + insE y
 | [], y => by simp [insE]
 | e :: x, y => by have := insE_app x y; simp only [List.cons_append, insE]; omega
theorem delE_app : ∀ x y, delE (x ++ y) = delE x + delE y
 | [], y => by simp [delE]
 | e :: x, y => by have := delE_app x y; simp only [List.cons_append, delE]; omega
theorem delE_le {many : Int} : ∀ (l : List Ed) (p : Ed) (fr : Int), okFrom fr many (p :: l) = true → 0 ≤ delE (p :: l) ∧ delE (p :: l) ≤ endE p l - p.f0
 | [], p, fr, h => by obtain ⟨c1, c2, c3, c4, c5, h'⟩ := okFrom_cons h; simp only [delE, endE]; omega
 | e :: l, p, fr, h => by
  obtain ⟨c1, c2, c3, c4, c5, h'⟩ := okFrom_cons h
  have ih := delE_le l e _ h'
  obtain ⟨d1, _, _, _, _, _⟩ := okFrom_cons h'
  rw [delE, endE]; omega
theorem delE_nonneg {many fr : Int} (l : List Ed) (h : okFrom fr many l = true) : 0 ≤ delE l := by
 cases l with
 | nil => simp [delE]
 | cons p l => exact (delE_le l p fr h).1
theorem okFrom_each {many : Int} : ∀ (l : List Ed) (fr : Int), okFrom fr many l = true → ∀ e ∈ l, fr ≤ e.f0 ∧ 0 ≤ e.f1 ∧ e.f0 + e.f1 ≤ many
 | [], fr, h, e, he => by cases he
 | p :: l, fr, h, e, he => by
  obtain ⟨c1, c2, c3, c4, c5, h'⟩ := okFrom_cons h
  rcases List.mem_cons.1 he with rfl | he
  ·omega
  ·have := okFrom_each l _ h' e he; omega
theorem Make_l1 (a : List ByteArray) (l : List Ed) (ar more : Int) (out : List Hk) (har : 0 ≤ ar) (har2 : ar ≤ 1000) (hl : l.length ≤ 1099511627776) (hb : ∀ e ∈ l, 0 ≤ e.f0 ∧ 0 ≤ e.f1 ∧ e.f0 + e.f1 ≤ 1099511627776) (r : List Hk × Int) :
  ∀ (d n : Nat) (hd : l.length - n = d) (h1 : 1 ≤ n) (h2 : n ≤ l.length),
  (∀ m, m = n + (grp ar (l[n - 1]'(by omega)) (l.drop n)).1.length → m ≤ l.length → Ev (fun k => (hunk_group.f k a (l.take m) ar more).bind fun bt => (if out.length < 2513169434916 then (hunk_Make.l0 k a (l.drop m) ar (out ++ [(⟨bt.1, bt.2.1, bt.2.2.1, bt.2.2.2.1, bt.2.2.2.2⟩ : Hk)]) (wrap64 (more + (wrap64 (bt.2.2.2.1 - bt.2.1))))) else none)) r) →
  Ev (fun k => hunk_Make.l1 k a l ar out more (n : Int)) r := by
 intro d
 induction d with
 | zero =>
  intro n hd h1 h2 rest
  refine Ev.step (fun _ => hunk_Make.l1.eq_2 ..) ?_
  simp only [if_neg (show ¬ (n : Int) < (l.length : Int) by omega), if_pos (show 0 ≤ (n : Int) by omega), if_pos (show (n : Int) ≤ (l.length : Int) by omega), Int.toNat_natCast]
  refine rest n ?_ h2
  rw [List.drop_of_length_le (by omega)]
  rfl
 | succ d ih =>
  intro n hd h1 h2 rest
  refine Ev.step (fun _ => hunk_Make.l1.eq_2 ..) ?_
  have h0 : n < l.length := by omega
  have hq : n - 1 < l.length := by omega
  have b1 := hb _ (List.getElem_mem h0)
  have b2 := hb _ (List.getElem_mem hq)
  have wn : wrap64 ((n : Int) - 1) = ((n - 1 : Nat) : Int) := by rw [w_in (by omega) (by omega)]; omega
  have w2 : wrap64 (2 * ar) = 2 * ar := w_in (by omega) (by omega)
  simp only [if_pos (show (n : Int) < (l.length : Int) by omega), if_pos (show 0 ≤ (n : Int) by omega), wn, if_pos (show 0 ≤ ((n - 1 : Nat) : Int) by omega), if_pos (show ((n - 1 : Nat) : Int) < (l.length : Int) by omega), rdE_at h0, rdE_at hq, w2, w_succ h0 (show l.length ≤ 4611686018427387904 by omega), if_pos (show (n : Int) ≤ (l.length : Int) by omega), Int.toNat_natCast]
  rw [w_in (x := l[n].f0 - l[n - 1].f0) (by omega) (by omega), w_in (x := l[n].f0 - l[n - 1].f0 - l[n - 1].f1) (by omega) (by omega)]
  by_cases c : l[n].f0 - l[n - 1].f0 - l[n - 1].f1 ≤ 2 * ar
  ·simp only [if_pos c]
   refine ih (n + 1) (by omega) (by omega) (by omega) (fun m hm hm2 => rest m ?_ hm2)
   rw [List.drop_eq_getElem_cons h0, grp, if_pos c]
   simp only [Nat.add_sub_cancel] at hm
   simp only [List.length_cons]
   omega
  ·simp only [if_neg c]
   refine rest n ?_ h2
   rw [List.drop_eq_getElem_cons h0, grp, if_neg c]
   rfl
theorem insE_mem' : ∀ (m : List Ed) (e : Ed), e ∈ m → e.f2.length ≤ insE m
 | x :: m, e, h => by
  rcases List.mem_cons.1 h with rfl | h
  ·simp only [insE]; omega
  ·have := insE_mem' m e h; simp only [insE]; omega
theorem Make_l0 (a : List ByteArray) (ar : Int) (ha : a.length ≤ 274877906944) (hsa : ∀ s ∈ a, s.size ≤ 4611686018427387904) (har : 0 ≤ ar) (har2 : ar ≤ 1000) :
  ∀ (N : Nat) (l : List Ed) (more fr : Int) (out : List Hk), l.length ≤ N → l.length ≤ 274877906944 → (∀ e ∈ l, ∀ s ∈ e.f2, s.size ≤ 4611686018427387904) → 0 ≤ fr → okFrom fr a.length l = true → insE l ≤ 274877906944 →
   more + insE l ≤ 1099511627776 → -1099511627776 ≤ more - delE l → out.length + l.length ≤ 1099511627776 →
  Ev (fun k => hunk_Make.l0 k a l ar out more) (out ++ makeH a ar more l, 0) := by
 intro N
 induction N with
 | zero =>
  intro l more fr out hN hl hs hf ho hi hm1 hm2 hout
  have e : l = [] := List.eq_nil_of_length_eq_zero (by omega)
  subst e
  refine Ev.step (fun _ => hunk_Make.l0.eq_2 ..) ?_
  simp only [List.length_nil, if_neg (show ¬ ((0 : Nat) : Int) > 0 by omega), makeH, List.append_nil]
  exact Ev.now _
 | succ N ih =>
  intro l more fr out hN hl hs hf ho hi hm1 hm2 hout
  cases l with
  | nil =>
   refine Ev.step (fun _ => hunk_Make.l0.eq_2 ..) ?_
   simp only [List.length_nil, if_neg (show ¬ ((0 : Nat) : Int) > 0 by omega), makeH, List.append_nil]
   exact Ev.now _
  | cons p l =>
   have happ := grp_app ar l p
   have hsp := okFrom_split (many := a.length) (grp ar p l).1 p (grp ar p l).2 fr (by rw [happ]; exact ho)
   have hlen := congrArg List.length happ
   have hin : insE (p :: l) = insE (p :: (grp ar p l).1) + insE (grp ar p l).2 := by rw [← insE_app, List.cons_append, happ]
   have hde : delE (p :: l) = delE (p :: (grp ar p l).1) + delE (grp ar p l).2 := by rw [← delE_app, List.cons_append, happ]
   have hd1 := delE_le _ _ _ hsp.1
   have hd2 := delE_nonneg _ hsp.2
   have hdf := diffE_eq (p :: (grp ar p l).1)
   have hla := okFrom_last _ _ _ hsp.1
   rw [List.length_append] at hlen
   simp only [List.length_cons] at hN hl hout
   refine Ev.step (fun _ => hunk_Make.l0.eq_2 ..) ?_
   simp only [if_pos (show (((p :: l : List Ed).length : Nat) : Int) > 0 by simp only [List.length_cons]; omega)]
   refine Make_l1 a (p :: l) ar more out har har2 (by simp only [List.length_cons]; omega) (fun e he => by have := okFrom_each _ _ ho e he; omega) _ _ 1 rfl (Nat.le_refl _) (by simp only [List.length_cons]; omega) ?_
   intro m hm hm2
   have hm' : m = 1 + (grp ar p l).1.length := hm
   have hta : (p :: l).take m = p :: (grp ar p l).1 := by
    rw [hm', Nat.add_comm, List.take_succ_cons]
    congr 1
    have h := List.take_left (l₁ := (grp ar p l).1) (l₂ := (grp ar p l).2)
    rwa [happ] at h
   have htd : (p :: l).drop m = (grp ar p l).2 := by
    rw [hm', Nat.add_comm, List.drop_succ_cons]
    have h := List.drop_left (l₁ := (grp ar p l).1) (l₂ := (grp ar p l).2)
    rwa [happ] at h
   simp only [hta, htd]
   have hmem : ∀ e ∈ p :: (grp ar p l).1, e ∈ p :: l := fun e he => by
    rw [← happ]
    rcases List.mem_cons.1 he with rfl | he
    ·simp
    ·simp [he]
   have hmem2 : ∀ e ∈ (grp ar p l).2, e ∈ p :: l := fun e he => by
    rw [← happ]; simp [he]
   refine Ev.bind (Group_ev a p (grp ar p l).1 ar more fr ha (by omega) hsa (fun e he => hs e (hmem e he)) har har2 (by omega) (by omega) hf hsp.1 (by omega) (by omega)) ?_
   simp only [if_pos (show out.length < 2513169434916 by omega)]
   have hbn : (hunkOf a ar more p (grp ar p l).1).f3 - (hunkOf a ar more p (grp ar p l).1).f1 = diffE (p :: (grp ar p l).1) := by simp only [hunkOf]; omega
   rw [hbn, w_in (x := diffE (p :: (grp ar p l).1)) (by omega) (by omega), w_in (x := more + diffE (p :: (grp ar p l).1)) (by omega) (by omega)]
   have h := ih (grp ar p l).2 (more + diffE (p :: (grp ar p l).1)) (endE p (grp ar p l).1 + 1) (out ++ [hunkOf a ar more p (grp ar p l).1]) (by omega) (by omega) (fun e he => hs e (hmem2 e he)) (by omega) hsp.2 (by omega) (by omega) (by omega) (by rw [List.length_append, List.length_singleton]; omega)
   rw [makeH]
   rw [List.append_assoc] at h
   exact h
theorem Make_ev (a : List ByteArray) (l : List Ed) (ar : Int) (ha : a.length ≤ 274877906944) (hl : l.length ≤ 274877906944) (hsa : ∀ s ∈ a, s.size ≤ 4611686018427387904) (hs : ∀ e ∈ l, ∀ s ∈ e.f2, s.size ≤ 4611686018427387904)
  (har : 0 ≤ ar) (har2 : ar ≤ 1000) (ho : okFrom 0 a.length l = true) (hi : insE l ≤ 274877906944) : Ev (fun k => hunk_Make.f k a l ar) (makeH a ar 0 l, 0) := by
 unfold hunk_Make.f
 have hr := Right_ev (a.length : Int) l (by omega) (by omega) (by omega)
 rw [ho] at hr
 refine Ev.bind hr ?_
 simp only [if_true, if_neg (show ¬ ar < 0 by omega), decide_eq_false (show ¬ ar > 1000 by omega)]
 refine Ev.step (fun _ => hunk_Make.j0.eq_2 ..) ?_
 simp only [Bool.false_eq_true, if_false]
 have hde : delE l ≤ a.length := by
  cases l with
  | nil => simp [delE]
  | cons p l => have h1 := delE_le l p 0 ho; have h2 := okFrom_last l p 0 ho; obtain ⟨c1, _, _, _, _, _⟩ := okFrom_cons ho; omega
 have h := Make_l0 a ar ha hsa har har2 l.length l 0 0 [] (Nat.le_refl _) hl hs (by omega) ho hi (by omega) (by omega) (by simp; omega)
 exact h
def breaks (ar : Int) (p : Ed) : List Ed → Nat
 | [] => 0
 | e :: l => (if e.f0 - p.f0 - p.f1 ≤ 2 * ar then 0 else 1) + breaks ar e l
theorem breaks_grp (ar : Int) : ∀ (l : List Ed) (p : Ed), breaks ar p l = match (grp ar p l).2 with | [] => 0 | q :: r => 1 + breaks ar q r
 | [], p => rfl
 | e :: l, p => by
  rw [breaks, grp]
  by_cases c : e.f0 - p.f0 - p.f1 ≤ 2 * ar
  ·rw [if_pos c, if_pos c, breaks_grp ar l e, Nat.zero_add]
  ·rw [if_neg c, if_neg c]
theorem makeH_len (a : List ByteArray) (ar : Int) : ∀ (N : Nat) (l : List Ed) (more : Int), l.length ≤ N → (makeH a ar more l).length = match l with | [] => 0 | p :: r => 1 + breaks ar p r := by
 intro N
 induction N with
 | zero =>
  intro l more hN
  have e : l = [] := List.eq_nil_of_length_eq_zero (by omega)
  subst e
  rw [makeH]; rfl
 | succ N ih =>
  intro l more hN
  cases l with
  | nil => rw [makeH]; rfl
  | cons p l =>
   have hlen := grp_len ar l p
   simp only [List.length_cons] at hN
   rw [makeH, List.length_cons, ih _ _ (by omega)]
   show _ = 1 + breaks ar p l
   rw [breaks_grp ar l p]
   exact Nat.add_comm _ _
end Go.Proofs.Ytoaijganmfijmaa.Pr
-- shrunk
/-
Lines of a hunk that are right, and how many they are, in plain Lean.
-/
namespace Go.Proofs.Ytoaijganmfijmaa.Pr
open Go.RowKit Go.Proofs.YtoaijganmfijmaaW.PrintWords Go.Proofs.YtoaijganmfijmaaW.PrintLast Go.Proofs.YtoaijganmfijmaaW.PrintMore
set_option linter.unusedVariables false
set_option linter.unusedSimpArgs false
def manyL (z : Int) : List ByteArray → Nat
 | [] => 0
 | s :: l => (if 0 < s.size ∧ (bt s 0 = 32 ∨ bt s 0 = z) then 1 else 0) + manyL z l
theorem manyL_le (z : Int) : ∀ l, manyL z l ≤ l.length
 | [] => Nat.le_refl _
 | s :: l => by have := manyL_le z l; simp only [manyL, List.length_cons]; split <;> omega
def okL (came : Bool) : List ByteArray → Bool
 | [] => true
 | s :: l => decide (0 < s.size ∧ (bt s 0 = 32 ∨ bt s 0 = 43 ∨ bt s 0 = 45) ∧ ¬ (bt s 0 = 45 ∧ came = true)) && okL (decide (bt s 0 = 43)) l
theorem cntL_ok : ∀ (l : List ByteArray) (came : Bool) (an bn : Int), (cntL came an bn l).2.2 = okL came l ∧ (okL came l = true → cntL came an bn l = (an + manyL 45 l, bn + manyL 43 l, true))
 | [], came, an, bn => ⟨rfl, fun _ => by simp [cntL, manyL]⟩
 | s :: l, came, an, bn => by
  rw [cntL, okL]
  by_cases h0 : s.toList = ([] : List UInt8)
  ·have hs : ¬ 0 < s.size := by
    rw [nil_toList, toList_iff] at h0
    subst h0
    simp
   rw [if_pos h0, decide_eq_false (fun h => hs h.1), Bool.false_and]
   exact ⟨rfl, fun h => absurd h (by simp)⟩
  have hp := ne_size h0
  rw [if_neg h0]
  by_cases h1 : bt s 0 = 45 ∧ came = true
  ·rw [if_pos h1, decide_eq_false (fun h => h.2.2 h1), Bool.false_and]
   exact ⟨rfl, fun h => absurd h (by simp)⟩
  rw [if_neg h1]
  by_cases b32 : bt s 0 = 32
  ·have ih := cntL_ok l false (an + 1) (bn + 1)
   rw [if_pos b32, decide_eq_true ⟨hp, Or.inl b32, h1⟩, Bool.true_and, decide_eq_false (by omega)]
   refine ⟨ih.1, fun h => ?_⟩
   rw [ih.2 h, manyL, manyL, if_pos ⟨hp, Or.inl b32⟩, if_pos ⟨hp, Or.inl b32⟩]
   congr 1
   ·push_cast; omega
   ·congr 1; push_cast; omega
  rw [if_neg b32]
  by_cases b43 : bt s 0 = 43
  ·have ih := cntL_ok l true an (bn + 1)
   rw [if_pos b43, decide_eq_true ⟨hp, Or.inr (Or.inl b43), h1⟩, Bool.true_and, decide_eq_true b43]
   refine ⟨ih.1, fun h => ?_⟩
   rw [ih.2 h, manyL, manyL, if_neg (by rintro ⟨_, h | h⟩ <;> omega), if_pos ⟨hp, Or.inr b43⟩, Nat.zero_add]
   congr 1
   congr 1; push_cast; omega
  rw [if_neg b43]
  by_cases b45 : bt s 0 = 45
  ·have ih := cntL_ok l false (an + 1) bn
   rw [if_pos b45, decide_eq_true ⟨hp, Or.inr (Or.inr b45), h1⟩, Bool.true_and, decide_eq_false (by omega)]
   refine ⟨ih.1, fun h => ?_⟩
   rw [ih.2 h, manyL, manyL, if_pos ⟨hp, Or.inr b45⟩, if_neg (by rintro ⟨_, h | h⟩ <;> omega), Nat.zero_add]
   congr 1
   push_cast; omega
  ·rw [if_neg b45, decide_eq_false (by rintro ⟨_, h | h | h, _⟩ <;> omega), Bool.false_and]
   exact ⟨rfl, fun h => absurd h (by simp)⟩
def rightL (A An B Bn : Int) (l : List ByteArray) : Bool := decide (okL false l = true ∧ 0 ≤ A ∧ 0 ≤ B ∧ An = manyL 45 l ∧ Bn = manyL 43 l)
theorem right_same (A An B Bn : Int) (l : List ByteArray) : decide ((cntL false 0 0 l).2.2 = true ∧ 0 ≤ A ∧ 0 ≤ B ∧ (cntL false 0 0 l).1 = An ∧ (cntL false 0 0 l).2.1 = Bn) = rightL A An B Bn l := by
 have h := cntL_ok l false 0 0
 unfold rightL
 rw [decide_eq_decide, h.1]
 constructor
 ·rintro ⟨h1, h2, h3, h4, h5⟩
  rw [h.2 h1] at h4 h5
  exact ⟨h1, h2, h3, by have h4' : (0 : Int) + (manyL 45 l : Int) = An := h4; omega, by have h5' : (0 : Int) + (manyL 43 l : Int) = Bn := h5; omega⟩
 ·rintro ⟨h1, h2, h3, h4, h5⟩
  rw [h.2 h1]
  exact ⟨h1, h2, h3, by show (0 : Int) + (manyL 45 l : Int) = An; omega, by show (0 : Int) + (manyL 43 l : Int) = Bn; omega⟩
end Go.Proofs.Ytoaijganmfijmaa.Pr
-- shrunk
/-
What hunks make of lines, in plain Lean; what hunks that are right have.
-/
namespace Go.Proofs.Ytoaijganmfijmaa.Pr
open Go.RowKit Go.Proofs.YtoaijganmfijmaaW.PrintWords Go.Proofs.YtoaijganmfijmaaW.PrintLast Go.Proofs.YtoaijganmfijmaaW.PrintMore
set_option linter.unusedVariables false
set_option linter.unusedSimpArgs false
def lineP (a : List ByteArray) : Nat → List ByteArray → List ByteArray → Option (List ByteArray × Nat)
 | at_, out, [] => some (out, at_)
 | at_, out, s :: ls =>
  if bt s 0 = 43 then lineP a at_ (out ++ [tl s]) ls
  else if a[at_]? = some (tl s) then lineP a (at_ + 1) (if bt s 0 = 45 then out else out ++ [tl s]) ls
  else none
def oneP (a : List ByteArray) (done : Nat) (A : Int) (L : List ByteArray) (out : List ByteArray) : Option (List ByteArray × Nat) :=
 if A ≤ a.length then lineP a A.toNat (out ++ (a.take A.toNat).drop done) L else none
def allP (a : List ByteArray) : Nat → List ByteArray → List Hk → Option (List ByteArray × Nat)
 | d, o, [] => some (o, d)
 | d, o, h :: hs => match oneP a d h.f0 h.f4 o with
  | none => none
  | some (o', d') => allP a d' o' hs
def rightP : Int → Int → List Hk → Bool
 | _, _, [] => true
 | en, more, h :: hs => rightL h.f0 h.f1 h.f2 h.f3 h.f4 && decide (en ≤ h.f0) && decide (h.f2 = h.f0 + more) && rightP (h.f0 + h.f1) (more + h.f3 - h.f1) hs
def applyP (a : List ByteArray) (l : List Hk) : List ByteArray × Int :=
 if rightP 0 0 l = true then match allP a 0 [] l with
  | none => ([], 6)
  | some (o, d) => (o ++ a.drop d, 0)
 else ([], 3)
def SmallA (a : List ByteArray) (l : List Hk) : Prop := a.length ≤ 65536 ∧ l.length ≤ 1024 ∧ ∀ h ∈ l, h.f4.length ≤ 65536 ∧ -1099511627776 ≤ h.f0 ∧ h.f0 ≤ 1099511627776 ∧ -1099511627776 ≤ h.f2 ∧ h.f2 ≤ 1099511627776
instance (a : List ByteArray) (l : List Hk) : Decidable (SmallA a l) := by unfold SmallA; exact inferInstance
theorem okL_size : ∀ (l : List ByteArray) (came : Bool), okL came l = true → ∀ s ∈ l, 0 < s.size
 | [], _, _, s, h => absurd h (by simp)
 | x :: l, came, h, s, hs => by
  rw [okL, Bool.and_eq_true, decide_eq_true_eq] at h
  rcases List.mem_cons.1 hs with rfl | hs
  ·exact h.1.1
  ·exact okL_size l _ h.2 s hs
theorem lineP_at (a : List ByteArray) : ∀ (l : List ByteArray) (came : Bool) (t : Nat) (out o : List ByteArray) (p : Nat), okL came l = true → lineP a t out l = some (o, p) → p = t + manyL 45 l
 | [], came, t, out, o, p, _, h => by
  rw [lineP] at h
  simp only [Option.some.injEq, Prod.mk.injEq] at h
  rw [manyL]; omega
 | s :: l, came, t, out, o, p, hk, h => by
  rw [okL, Bool.and_eq_true, decide_eq_true_eq] at hk
  rw [lineP] at h
  by_cases c : bt s 0 = 43
  ·rw [if_pos c] at h
   have := lineP_at a l _ t _ o p hk.2 h
   rw [manyL, if_neg (by rintro ⟨_, h | h⟩ <;> omega)]; omega
  ·rw [if_neg c] at h
   by_cases c2 : a[t]? = some (tl s)
   ·rw [if_pos c2] at h
    have := lineP_at a l _ (t + 1) _ o p hk.2 h
    rw [manyL, if_pos ⟨hk.1.1, by omega⟩]; omega
   ·rw [if_neg c2] at h; cases h
theorem lineP_le (a : List ByteArray) : ∀ (l : List ByteArray) (t : Nat) (out o : List ByteArray) (p : Nat), t ≤ a.length → lineP a t out l = some (o, p) → p ≤ a.length ∧ o.length ≤ out.length + l.length
 | [], t, out, o, p, ht, h => by
  rw [lineP] at h
  simp only [Option.some.injEq, Prod.mk.injEq] at h
  obtain ⟨rfl, rfl⟩ := h
  exact ⟨ht, by omega⟩
 | s :: l, t, out, o, p, ht, h => by
  rw [lineP] at h
  by_cases c : bt s 0 = 43
  ·rw [if_pos c] at h
   have := lineP_le a l t _ o p ht h
   rw [List.length_append, List.length_singleton] at this
   rw [List.length_cons]; omega
  ·rw [if_neg c] at h
   by_cases c2 : a[t]? = some (tl s)
   ·rw [if_pos c2] at h
    have hlt : t < a.length := by
     rcases Nat.lt_or_ge t a.length with h | h
     ·exact h
     ·rw [List.getElem?_eq_none h] at c2; cases c2
    have := lineP_le a l (t + 1) _ o p (by omega) h
    rw [List.length_cons]
    split at this
    ·omega
    ·rw [List.length_append, List.length_singleton] at this; omega
   ·rw [if_neg c2] at h; cases h
theorem oneP_some {a : List ByteArray} {d : Nat} {A An B Bn : Int} {L out o : List ByteArray} {p : Nat} (hr : rightL A An B Bn L = true) (h : oneP a d A L out = some (o, p)) : (p : Int) = A + An ∧ p ≤ a.length ∧ o.length ≤ out.length + a.length + L.length := by
 unfold rightL at hr
 rw [decide_eq_true_eq] at hr
 unfold oneP at h
 by_cases c : A ≤ a.length
 ·rw [if_pos c] at h
  have h1 := lineP_at a L false _ _ o p hr.1 h
  have h2 := lineP_le a L _ _ o p (by omega) h
  rw [List.length_append, List.length_drop, List.length_take] at h2
  omega
 ·rw [if_neg c] at h; cases h
theorem rightL_size {A An B Bn : Int} {L : List ByteArray} (hr : rightL A An B Bn L = true) : (∀ s ∈ L, 0 < s.size) ∧ 0 ≤ A ∧ 0 ≤ B ∧ An = manyL 45 L ∧ Bn = manyL 43 L := by
 unfold rightL at hr
 rw [decide_eq_true_eq] at hr
 exact ⟨okL_size L _ hr.1, hr.2⟩
end Go.Proofs.Ytoaijganmfijmaa.Pr
-- shrunk
/-
Hunks that take one list to another one: what they make of lines, in plain Lean.
-/
namespace Go.Proofs.Ytoaijganmfijmaa.Pr
open Go.RowKit Go.Proofs.YtoaijganmfijmaaW.PrintWords Go.Proofs.YtoaijganmfijmaaW.PrintLast Go.Proofs.YtoaijganmfijmaaW.PrintMore
set_option linter.unusedVariables false
set_option linter.unusedSimpArgs false
def oldL : List Blk → List ByteArray → List ByteArray
 | [], t => t
 | b :: bs, t => b.k ++ (b.d ++ oldL bs t)
def newL : List Blk → List ByteArray → List ByteArray
 | [], t => t
 | b :: bs, t => b.k ++ (b.i ++ newL bs t)
theorem oldL_len : ∀ (bs : List Blk) (t : List ByteArray), (oldL bs t).length = oldN bs + t.length
 | [], t => by simp [oldL, oldN]
 | b :: bs, t => by simp only [oldL, oldN, List.length_append, oldL_len bs t]; omega
theorem newL_len : ∀ (bs : List Blk) (t : List ByteArray), (newL bs t).length = newN bs + t.length
 | [], t => by simp [newL, newN]
 | b :: bs, t => by simp only [newL, newN, List.length_append, newL_len bs t]; omega
theorem oldL_swap : ∀ (bs : List Blk) (t : List ByteArray), oldL (bs.map swapB) t = newL bs t
 | [], t => rfl
 | b :: bs, t => by simp only [List.map_cons, oldL, newL, swapB, oldL_swap bs t]
theorem newL_swap : ∀ (bs : List Blk) (t : List ByteArray), newL (bs.map swapB) t = oldL bs t
 | [], t => rfl
 | b :: bs, t => by simp only [List.map_cons, oldL, newL, swapB, newL_swap bs t]
theorem pre_cons (a : List ByteArray) (p : Nat) (s : ByteArray) (k : List ByteArray) : (s :: k) <+: a.drop p ↔ a[p]? = some s ∧ k <+: a.drop (p + 1) := by
 rcases Nat.lt_or_ge p a.length with h | h
 ·rw [List.drop_eq_getElem_cons h, List.cons_prefix_cons, List.getElem?_eq_getElem h, Option.some.injEq]
  exact ⟨fun h => ⟨h.1.symm, h.2⟩, fun h => ⟨h.1.symm, h.2⟩⟩
 ·rw [List.drop_of_length_le h, List.getElem?_eq_none h]
  constructor
  ·intro h; exact absurd h (by simp)
  ·intro h; cases h.1
theorem pre_app (a : List ByteArray) : ∀ (x : List ByteArray) (p : Nat) (y : List ByteArray), (x ++ y) <+: a.drop p ↔ x <+: a.drop p ∧ y <+: a.drop (p + x.length)
 | [], p, y => by simp
 | s :: x, p, y => by
  rw [List.cons_append, pre_cons, pre_cons, pre_app a x, List.length_cons, and_assoc, show p + 1 + x.length = p + (x.length + 1) by omega]
theorem lineP_32 (a : List ByteArray) : ∀ (k R : List ByteArray) (p : Nat) (out : List ByteArray), (k <+: a.drop p → lineP a p out (sgs 32 k ++ R) = lineP a (p + k.length) (out ++ k) R) ∧ (¬ k <+: a.drop p → lineP a p out (sgs 32 k ++ R) = none)
 | [], R, p, out => ⟨fun _ => by rw [List.append_nil]; rfl, fun h => absurd (List.nil_prefix) h⟩
 | s :: k, R, p, out => by
  show (_ → lineP a p out (sg 32 s :: (sgs 32 k ++ R)) = _) ∧ (_ → lineP a p out (sg 32 s :: (sgs 32 k ++ R)) = _)
  have hb : bt (sg 32 s) 0 = 32 := sg_bt 32 s
  rw [lineP, hb, if_neg (show ¬ (32 : Int) = 43 by decide), if_neg (show ¬ (32 : Int) = 45 by decide), tl_sg, pre_cons]
  have ih := lineP_32 a k R (p + 1) (out ++ [s])
  by_cases c : a[p]? = some s
  ·rw [if_pos c]
   refine ⟨fun h => ?_, fun h => ih.2 (fun h2 => h ⟨c, h2⟩)⟩
   rw [ih.1 h.2, List.append_assoc, List.length_cons, show p + 1 + k.length = p + (k.length + 1) by omega]; rfl
  ·rw [if_neg c]
   exact ⟨fun h => absurd h.1 c, fun _ => rfl⟩
theorem lineP_45 (a : List ByteArray) : ∀ (k R : List ByteArray) (p : Nat) (out : List ByteArray), (k <+: a.drop p → lineP a p out (sgs 45 k ++ R) = lineP a (p + k.length) out R) ∧ (¬ k <+: a.drop p → lineP a p out (sgs 45 k ++ R) = none)
 | [], R, p, out => ⟨fun _ => rfl, fun h => absurd (List.nil_prefix) h⟩
 | s :: k, R, p, out => by
  show (_ → lineP a p out (sg 45 s :: (sgs 45 k ++ R)) = _) ∧ (_ → lineP a p out (sg 45 s :: (sgs 45 k ++ R)) = _)
  have hb : bt (sg 45 s) 0 = 45 := sg_bt 45 s
  rw [lineP, hb, if_neg (show ¬ (45 : Int) = 43 by decide), if_pos (show (45 : Int) = 45 from rfl), tl_sg, pre_cons]
  have ih := lineP_45 a k R (p + 1) out
  by_cases c : a[p]? = some s
  ·rw [if_pos c]
   refine ⟨fun h => ?_, fun h => ih.2 (fun h2 => h ⟨c, h2⟩)⟩
   rw [ih.1 h.2, List.length_cons, show p + 1 + k.length = p + (k.length + 1) by omega]
  ·rw [if_neg c]
   exact ⟨fun h => absurd h.1 c, fun _ => rfl⟩
theorem lineP_43 (a : List ByteArray) : ∀ (k R : List ByteArray) (p : Nat) (out : List ByteArray), lineP a p out (sgs 43 k ++ R) = lineP a p (out ++ k) R
 | [], R, p, out => by rw [List.append_nil]; rfl
 | s :: k, R, p, out => by
  show lineP a p out (sg 43 s :: (sgs 43 k ++ R)) = _
  have hb : bt (sg 43 s) 0 = 43 := sg_bt 43 s
  rw [lineP, hb, if_pos rfl, tl_sg, lineP_43 a k R, List.append_assoc]; rfl
theorem lineP_blk (a : List ByteArray) : ∀ (bs : List Blk) (t : List ByteArray) (p : Nat) (out : List ByteArray),
  (oldL bs t <+: a.drop p → lineP a p out (blkLines bs t) = some (out ++ newL bs t, p + (oldN bs + t.length))) ∧ (¬ oldL bs t <+: a.drop p → lineP a p out (blkLines bs t) = none)
 | [], t, p, out => by
  have h := lineP_32 a t [] p out
  rw [List.append_nil] at h
  simp only [oldL, newL, blkLines, oldN, Nat.zero_add]
  exact h
 | b :: bs, t, p, out => by
  simp only [oldL, newL, blkLines, oldN]
  rw [pre_app, pre_app]
  have h1 := lineP_32 a b.k (sgs 45 b.d ++ (sgs 43 b.i ++ blkLines bs t)) p out
  have h2 := lineP_45 a b.d (sgs 43 b.i ++ blkLines bs t) (p + b.k.length) (out ++ b.k)
  have h3 := lineP_43 a b.i (blkLines bs t) (p + b.k.length + b.d.length) (out ++ b.k)
  have h4 := lineP_blk a bs t (p + b.k.length + b.d.length) (out ++ b.k ++ b.i)
  by_cases c1 : b.k <+: a.drop p
  ·by_cases c2 : b.d <+: a.drop (p + b.k.length)
   ·rw [h1.1 c1, h2.1 c2, h3]
    refine ⟨fun h => ?_, fun h => h4.2 (fun hh => h ⟨c1, c2, hh⟩)⟩
    rw [h4.1 h.2.2]
    congr 2
    ·simp only [List.append_assoc]
    ·omega
   ·exact ⟨fun h => absurd h.2.1 c2, fun _ => by rw [h1.1 c1, h2.2 c2]⟩
  ·exact ⟨fun h => absurd h.1 c1, fun _ => h1.2 c1⟩
structure TakeOne (a b : List ByteArray) (d d' : Nat) (h : Hk) (A B : Nat) (bs : List Blk) (t : List ByteArray) : Prop where
 eq : h = ⟨(A : Int), ((oldN bs + t.length : Nat) : Int), (B : Int), ((newN bs + t.length : Nat) : Int), blkLines bs t⟩
 hd : d ≤ A
 hd' : d' ≤ B
 hA : A + (oldN bs + t.length) ≤ a.length
 hB : B + (newN bs + t.length) ≤ b.length
 gap : (a.take A).drop d = (b.take B).drop d'
 ho : (a.drop A).take (oldN bs + t.length) = oldL bs t
 hn : (b.drop B).take (newN bs + t.length) = newL bs t
 ok : BOk true bs
def Takes (a b : List ByteArray) : Nat → Nat → List Hk → Prop
 | d, d', [] => a.drop d = b.drop d' ∧ d ≤ a.length ∧ d' ≤ b.length
 | d, d', h :: hs => ∃ (A B : Nat) (bs : List Blk) (t : List ByteArray), TakeOne a b d d' h A B bs t ∧ Takes a b (A + (oldN bs + t.length)) (B + (newN bs + t.length)) hs
theorem gap_app (b : List ByteArray) {d B : Nat} (h : d ≤ B) : (b.take B).drop d ++ b.drop B = b.drop d := by
 rw [List.drop_take]
 have : b.drop B = (b.drop d).drop (B - d) := by rw [List.drop_drop]; congr 1; omega
 rw [this, List.take_append_drop]
theorem takes_one {a b : List ByteArray} {d d' : Nat} {h : Hk} {A B : Nat} {bs : List Blk} {t : List ByteArray} (H : TakeOne a b d d' h A B bs t) (out : List ByteArray) :
  oneP a d h.f0 h.f4 out = some (out ++ (a.take A).drop d ++ newL bs t, A + (oldN bs + t.length)) := by
 rw [H.eq]
 show oneP a d (A : Int) (blkLines bs t) out = _
 have := H.hA
 rw [oneP, if_pos (by omega), Int.toNat_natCast, (lineP_blk a bs t A _).1 (by rw [← H.ho]; exact List.take_prefix _ _)]
theorem takes_apply (a b : List ByteArray) : ∀ (l : List Hk) (d d' : Nat) (out : List ByteArray), Takes a b d d' l → ∃ o p, allP a d out l = some (o, p) ∧ p ≤ a.length ∧ o ++ a.drop p = out ++ b.drop d'
 | [], d, d', out, h => ⟨out, d, rfl, h.2.1, by rw [h.1]⟩
 | x :: l, d, d', out, h => by
  obtain ⟨A, B, bs, t, H, hr⟩ := h
  obtain ⟨o, p, h1, h2, h3⟩ := takes_apply a b l _ _ (out ++ (a.take A).drop d ++ newL bs t) hr
  refine ⟨o, p, ?_, h2, ?_⟩
  ·rw [allP, takes_one H]; exact h1
  ·rw [h3, H.gap, ← H.hn, List.append_assoc, List.append_assoc, show b.drop (B + (newN bs + t.length)) = (b.drop B).drop (newN bs + t.length) by rw [List.drop_drop], List.take_append_drop, gap_app b H.hd']
def Turned : List Hk → List Hk → Prop
 | [], [] => True
 | h :: hs, m :: ms => (∃ (A An B Bn : Int) (bs : List Blk) (t : List ByteArray), h = ⟨A, An, B, Bn, blkLines bs t⟩ ∧ m = ⟨B, Bn, A, An, blkLines (bs.map swapB) t⟩ ∧ BOk true bs) ∧ Turned hs ms
 | _, _ => False
theorem Turned.back : ∀ {l m : List Hk}, Turned l m → Turned m l
 | [], [], _ => trivial
 | h :: hs, m :: ms, ⟨⟨A, An, B, Bn, bs, t, e1, e2, ok⟩, hr⟩ => ⟨⟨B, Bn, A, An, bs.map swapB, t, e2, by rw [e1, swapB_swapB], BOk_swap _ _ ok⟩, Turned.back hr⟩
 | [], _ :: _, h => h.elim
 | _ :: _, [], h => h.elim
theorem takes_turn (a b : List ByteArray) : ∀ (l : List Hk) (d d' : Nat), Takes a b d d' l → ∃ m, Turned l m ∧ Takes b a d' d m
 | [], d, d', h => ⟨[], trivial, h.1.symm, h.2.2, h.2.1⟩
 | x :: l, d, d', h => by
  obtain ⟨A, B, bs, t, H, hr⟩ := h
  obtain ⟨m, h1, h2⟩ := takes_turn a b l _ _ hr
  refine ⟨⟨(B : Int), ((newN bs + t.length : Nat) : Int), (A : Int), ((oldN bs + t.length : Nat) : Int), blkLines (bs.map swapB) t⟩ :: m, ⟨⟨_, _, _, _, bs, t, H.eq, rfl, H.ok⟩, h1⟩, B, A, bs.map swapB, t, ⟨?_, H.hd', H.hd, ?_, ?_, H.gap.symm, ?_, ?_, BOk_swap _ _ H.ok⟩, ?_⟩
  ·rw [oldN_swap, newN_swap]
  ·rw [oldN_swap]; exact H.hB
  ·rw [newN_swap]; exact H.hA
  ·rw [oldN_swap, oldL_swap]; exact H.hn
  ·rw [newN_swap, newL_swap]; exact H.ho
  ·rw [oldN_swap, newN_swap]; exact h2
theorem takes_b {a b : List ByteArray} {d d' : Nat} {h : Hk} {A B : Nat} {bs : List Blk} {t : List ByteArray} (H : TakeOne a b d d' h A B bs t) : (B : Int) = A + (d' - d) := by
 have h1 := congrArg List.length H.gap
 have h2 := H.hA
 have h3 := H.hB
 have h4 := H.hd
 have h5 := H.hd'
 rw [List.length_drop, List.length_drop, List.length_take, List.length_take] at h1
 omega
theorem rightL_blk (A B : Nat) (bs : List Blk) (t : List ByteArray) (ok : BOk true bs) : rightL (A : Int) ((oldN bs + t.length : Nat) : Int) (B : Int) ((newN bs + t.length : Nat) : Int) (blkLines bs t) = true := by
 rw [← right_same, decide_eq_true_eq, cntL_blk bs t true false 0 0 ok (fun _ => rfl)]
 refine ⟨rfl, by omega, by omega, ?_, ?_⟩
 ·show (0 : Int) + _ + _ = _; push_cast; omega
 ·show (0 : Int) + _ + _ = _; push_cast; omega
theorem takes_right (a b : List ByteArray) : ∀ (l : List Hk) (d d' : Nat), Takes a b d d' l → rightP (d : Int) ((d' : Int) - d) l = true
 | [], d, d', h => rfl
 | x :: l, d, d', h => by
  obtain ⟨A, B, bs, t, H, hr⟩ := h
  have hB := takes_b H
  have hd := H.hd
  have ih := takes_right a b l _ _ hr
  rw [rightP, Bool.and_eq_true, Bool.and_eq_true, Bool.and_eq_true, decide_eq_true_eq, decide_eq_true_eq, H.eq]
  refine ⟨⟨⟨rightL_blk A B bs t H.ok, by show (d : Int) ≤ A; omega⟩, hB⟩, ?_⟩
  rw [show ((A + (oldN bs + t.length) : Nat) : Int) = (A : Int) + ((oldN bs + t.length : Nat) : Int) by omega, show ((B + (newN bs + t.length) : Nat) : Int) - ((A : Int) + ((oldN bs + t.length : Nat) : Int)) = (d' : Int) - d + ((newN bs + t.length : Nat) : Int) - ((oldN bs + t.length : Nat) : Int) by omega] at ih
  exact ih
theorem takes_applyP {a b : List ByteArray} {l : List Hk} (h : Takes a b 0 0 l) : applyP a l = (b, 0) := by
 have hr := takes_right a b l 0 0 h
 obtain ⟨o, p, h1, h2, h3⟩ := takes_apply a b l 0 0 [] h
 unfold applyP
 rw [if_pos (by simpa using hr), h1]
 show (o ++ a.drop p, (0 : Int)) = (b, 0)
 rw [h3]; simp
theorem play_split (a : List ByteArray) : ∀ (l : List Ed) (d A : Nat), d ≤ A → (∀ e ∈ l.head?, (A : Int) ≤ e.f0) → playFrom a d l = (a.take A).drop d ++ playFrom a A l
 | [], d, A, h, _ => by rw [playFrom, playFrom, gap_app a h]
 | e :: l, d, A, h, he => by
  have := he e rfl
  have e2 := gap_app (a.take e.f0.toNat) h
  rw [List.take_take, Nat.min_eq_left (by omega)] at e2
  rw [playFrom, playFrom, ← e2]
  simp only [List.append_assoc]
theorem blks_old (a : List ByteArray) (z : Nat) (hto : z ≤ a.length) : ∀ (l : List Ed) (p : Ed) (fr : Int) (t : Nat), (t : Int) ≤ fr → okFrom fr a.length (p :: l) = true → endE p l ≤ z →
  oldL (blks a t (p :: l)) ((a.take z).drop (endE p l).toNat) = (a.take z).drop t
 | [], p, fr, t, ht, ho, he => by
  obtain ⟨c1, c2, c3, c4, _, _⟩ := okFrom_cons ho
  simp only [endE] at he ⊢
  simp only [blks, oldL]
  have e1 := gap_app (a.take z) (d := t) (B := p.f0.toNat) (by omega)
  have e2 := gap_app (a.take z) (d := p.f0.toNat) (B := (p.f0 + p.f1).toNat) (by omega)
  rw [List.take_take, Nat.min_eq_left (by omega)] at e1 e2
  rw [e2, e1]
 | q :: l, p, fr, t, ht, ho, he => by
  obtain ⟨c1, c2, c3, c4, _, ho'⟩ := okFrom_cons ho
  have ih := blks_old a z hto l q (p.f0 + p.f1 + 1) (p.f0 + p.f1).toNat (by omega) ho' (by simpa [endE] using he)
  have hq := okFrom_last l q _ ho'
  simp only [endE] at he ⊢
  rw [blks, oldL, ih]
  have e1 := gap_app (a.take z) (d := t) (B := p.f0.toNat) (by omega)
  have e2 := gap_app (a.take z) (d := p.f0.toNat) (B := (p.f0 + p.f1).toNat) (by omega)
  rw [List.take_take, Nat.min_eq_left (by omega)] at e1 e2
  show (a.take p.f0.toNat).drop t ++ ((a.take (p.f0 + p.f1).toNat).drop p.f0.toNat ++ _) = _
  rw [e2, e1]
theorem play_grp (a : List ByteArray) (z : Nat) (hto : z ≤ a.length) (rest : List Ed) (hre : ∀ e ∈ rest.head?, (z : Int) ≤ e.f0) : ∀ (l : List Ed) (p : Ed) (fr : Int) (t : Nat), (t : Int) ≤ fr → okFrom fr a.length (p :: l) = true → endE p l ≤ z →
  playFrom a t (p :: (l ++ rest)) = newL (blks a t (p :: l)) ((a.take z).drop (endE p l).toNat) ++ playFrom a z rest
 | [], p, fr, t, ht, ho, he => by
  simp only [endE] at he ⊢
  rw [List.nil_append, playFrom, play_split a rest (p.f0 + p.f1).toNat z (by omega) hre]
  simp only [blks, newL, List.append_assoc]
 | q :: l, p, fr, t, ht, ho, he => by
  obtain ⟨c1, c2, c3, c4, _, ho'⟩ := okFrom_cons ho
  have ih := play_grp a z hto rest hre l q (p.f0 + p.f1 + 1) (p.f0 + p.f1).toNat (by omega) ho' (by simpa [endE] using he)
  simp only [endE] at he ⊢
  rw [List.cons_append, playFrom, ih, show blks a t (p :: q :: l) = ⟨(a.take p.f0.toNat).drop t, (a.take (p.f0 + p.f1).toNat).drop p.f0.toNat, p.f2⟩ :: blks a (p.f0 + p.f1).toNat (q :: l) from rfl]
  rw [newL.eq_2]
  simp only [List.append_assoc]
theorem makeH_takes (a b : List ByteArray) (ar : Int) (har : 0 ≤ ar) : ∀ (N : Nat) (l : List Ed) (more fr : Int) (d d' : Nat), l.length ≤ N → 0 ≤ fr → okFrom fr a.length l = true → (d' : Int) = d + more → d ≤ a.length → d' ≤ b.length →
   b.drop d' = playFrom a d l → (∀ p ∈ l.head?, d ≤ fromH p ar) → Takes a b d d' (makeH a ar more l) := by
 intro N
 induction N with
 | zero =>
  intro l more fr d d' hN hf ho hm h1 h2 hb hsep
  have e : l = [] := List.eq_nil_of_length_eq_zero (by omega)
  subst e
  rw [makeH]
  exact ⟨by rw [hb, playFrom], h1, h2⟩
 | succ N ih =>
  intro l more fr d d' hN hf ho hm h1 h2 hb hsep
  cases l with
  | nil => rw [makeH]; exact ⟨by rw [hb, playFrom], h1, h2⟩
  | cons p l =>
   have happ := grp_app ar l p
   have hsp := okFrom_split (many := a.length) (grp ar p l).1 p (grp ar p l).2 fr (by rw [happ]; exact ho)
   have hlen := congrArg List.length happ
   rw [List.length_append] at hlen
   simp only [List.length_cons] at hN
   have hla := okFrom_last _ _ _ hsp.1
   have htl := tail_len a ar p (grp ar p l).1 fr har hf hsp.1
   have hse := hsep p rfl
   obtain ⟨c1, c2, c3, c4, c5, ho'⟩ := okFrom_cons ho
   have hfp : (fromH p ar : Int) ≤ p.f0 := by unfold fromH; omega
   have ho0 : okFrom p.f0 a.length (p :: (grp ar p l).1) = true := by
    have := okFrom_cons hsp.1
    simp only [okFrom, Bool.and_eq_true, decide_eq_true_eq]
    exact ⟨⟨Int.le_refl _, this.2.1, this.2.2.1, this.2.2.2.1, this.2.2.2.2.1⟩, this.2.2.2.2.2⟩
   have hok := blks_ok a (p :: (grp ar p l).1) p.f0 (fromH p ar) true hfp (Or.inl rfl) ho0
   have hcn := blks_counts a (grp ar p l).1 p p.f0 (fromH p ar) hfp ho0
   have hfar : ∀ e ∈ (grp ar p l).2.head?, ((toH a p (grp ar p l).1 ar : Nat) : Int) ≤ fromH e ar := by
    intro e he
    have hx : (toH a p (grp ar p l).1 ar : Int) ≤ endE p (grp ar p l).1 + ar := by unfold toH; omega
    have hy : e.f0 - ar ≤ (fromH e ar : Int) := by unfold fromH; omega
    cases hr : (grp ar p l).2 with
    | nil => rw [hr] at he; cases he
    | cons q r =>
     rw [hr] at he
     have : q = e := Option.some.inj he
     subst this
     have hfar := grp_far ar l p q r hr
     omega
   have hfar2 : ∀ e ∈ (grp ar p l).2.head?, ((toH a p (grp ar p l).1 ar : Nat) : Int) ≤ e.f0 := by
    intro e he
    have := hfar e he
    have hy : (fromH e ar : Int) ≤ e.f0 := by
     cases hr : (grp ar p l).2 with
     | nil => rw [hr] at he; cases he
     | cons q r =>
      rw [hr] at he
      have hqe : q = e := Option.some.inj he
      subst hqe
      have h2 := hsp.2
      rw [hr] at h2
      have := okFrom_cons h2
      unfold fromH; omega
    omega
   -- letters
   rw [makeH]
   generalize (grp ar p l).1 = g at *
   generalize (grp ar p l).2 = rest at *
   generalize hto : toH a p g ar = z at *
   generalize hfr : fromH p ar = f at *
   obtain ⟨T, hT⟩ : ∃ T, T = (a.take z).drop (endE p g).toNat := ⟨_, rfl⟩
   obtain ⟨bs, hbs⟩ : ∃ x, x = blks a f (p :: g) := ⟨_, rfl⟩
   rw [← hT] at htl
   rw [← hbs] at hok hcn
   have hold := blks_old a z (by omega) g p p.f0 f hfp ho0 (by omega)
   have hpl := play_grp a z (by omega) rest hfar2 g p p.f0 f hfp ho0 (by omega)
   rw [← hT, ← hbs] at hold hpl
   have hps := play_split a (p :: l) d f hse (fun e he => by
    have : p = e := Option.some.inj he
    subst this
    exact hfp)
   rw [hps, ← happ, hpl] at hb
   have hlO := oldL_len bs T
   have hlN := newL_len bs T
   have hbl := congrArg List.length hb
   rw [List.length_drop, List.length_append, List.length_append, List.length_drop, List.length_take, hlN] at hbl
   have hfa : f ≤ a.length := by omega
   have hbB : b.drop (d' + (f - d)) = newL bs T ++ playFrom a z rest := by
    rw [show b.drop (d' + (f - d)) = (b.drop d').drop (f - d) by rw [List.drop_drop], hb, List.drop_append, List.length_drop, List.length_take, List.drop_of_length_le (by rw [List.length_drop, List.length_take]; omega), List.nil_append, show f - d - (min f a.length - d) = 0 by omega, List.drop_zero]
   have hold2 : oldN bs + T.length = z - f := by
    rw [← hlO, hold, List.length_drop, List.length_take]; omega
   refine ⟨f, d' + (f - d), bs, T, ⟨?_, hse, by omega, by omega, by omega, ?_, ?_, ?_, hok⟩, ?_⟩
   ·unfold hunkOf
    rw [hto, hfr]
    have hl5 : linesH a ar p g = blkLines bs T := by rw [linesH, hfr, hto, ← hT, ← hbs]
    rw [hl5]
    congr 1
    ·omega
    ·omega
    ·omega
   ·symm
    rw [List.drop_take (l := b), hb, show d' + (f - d) - d' = f - d by omega, List.take_append_of_le_length (by rw [List.length_drop, List.length_take]; omega), List.take_of_length_le (by rw [List.length_drop, List.length_take]; omega)]
   ·rw [hold2, hold, List.drop_take]
   ·rw [hbB, ← hlN, List.take_left]
   ·refine ih rest _ _ _ _ (by omega) ?_ hsp.2 ?_ ?_ ?_ ?_ ?_
    ·omega
    ·omega
    ·omega
    ·omega
    ·rw [show f + (oldN bs + T.length) = z by omega, ← List.drop_drop, hbB, ← hlN, List.drop_left]
    ·intro q hq
     have := hfar q hq
     omega
theorem takes_ge (a b : List ByteArray) : ∀ (l : List Hk) (d d' : Nat), Takes a b d d' l → ∀ h ∈ l, (d : Int) ≤ h.f0
 | [], d, d', _, h, hh => absurd hh (by simp)
 | x :: l, d, d', H, h, hh => by
  obtain ⟨A, B, bs, t, H, hr⟩ := H
  have := H.hd
  rcases List.mem_cons.1 hh with rfl | hh
  ·rw [H.eq]; show (d : Int) ≤ A; omega
  ·have := takes_ge a b l _ _ hr h hh
   omega
theorem takes_cong (a b c : List ByteArray) (hl : c.length = a.length) : ∀ (l : List Hk) (d d' : Nat), c.drop d = a.drop d → Takes a b d d' l → Takes c b d d' l
 | [], d, d', e, h => ⟨by rw [e, h.1], by rw [hl]; exact h.2.1, h.2.2⟩
 | x :: l, d, d', e, h => by
  obtain ⟨A, B, bs, t, H, hr⟩ := h
  have hd := H.hd
  have e2 : ∀ n, d ≤ n → c.drop n = a.drop n := fun n hn => by
   have := congrArg (List.drop (n - d)) e
   rw [List.drop_drop, List.drop_drop, show d + (n - d) = n by omega] at this
   exact this
  refine ⟨A, B, bs, t, ⟨H.eq, H.hd, H.hd', by rw [hl]; exact H.hA, H.hB, ?_, by rw [e2 A hd]; exact H.ho, H.hn, H.ok⟩, takes_cong a b c hl l _ _ (e2 _ (by omega)) hr⟩
  rw [← H.gap, List.drop_take, List.drop_take, e]
def inH (k : Nat) (l : List Hk) : Prop := ∃ h ∈ l, h.f0 ≤ (k : Int) ∧ (k : Int) < h.f0 + h.f1
theorem drop_set_lt (a : List ByteArray) (k n : Nat) (s : ByteArray) (h : k < n) : (a.set k s).drop n = a.drop n := by
 rw [List.drop_set, if_pos h]
theorem exact_all (a b : List ByteArray) (k : Nat) (s : ByteArray) (hk : k < a.length) (hs : a[k]? ≠ some s) : ∀ (l : List Hk) (d d' : Nat) (out : List ByteArray), Takes a b d d' l → d ≤ k →
  (inH k l → allP (a.set k s) d out l = none) ∧ (¬ inH k l → ∃ o p, allP (a.set k s) d out l = some (o, p) ∧ (o ++ (a.set k s).drop p).length = out.length + (b.drop d').length ∧ s ∈ o ++ (a.set k s).drop p)
 | [], d, d', out, h, hd => by
  refine ⟨fun ⟨h, hh, _⟩ => absurd hh (by simp), fun _ => ⟨out, d, rfl, ?_, ?_⟩⟩
  ·rw [← h.1, List.length_append, List.length_drop, List.length_set, List.length_drop]
  ·refine List.mem_append_right _ ?_
   rw [List.drop_set, if_neg (by omega)]
   exact List.mem_of_getElem? (List.getElem?_set_self (by rw [List.length_drop]; omega))
 | x :: l, d, d', out, h, hd => by
  obtain ⟨A, B, bs, t, H, hr⟩ := h
  have hdA := H.hd
  have hAl := H.hA
  have hx0 : x.f0 = A := by rw [H.eq]
  have hx1 : x.f1 = ((oldN bs + t.length : Nat) : Int) := by rw [H.eq]
  have hx4 : x.f4 = blkLines bs t := by rw [H.eq]
  have hlc : (a.set k s).length = a.length := List.length_set
  have hone : oneP (a.set k s) d x.f0 x.f4 out = lineP (a.set k s) A (out ++ ((a.set k s).take A).drop d) (blkLines bs t) := by
   rw [hx0, hx4, oneP, if_pos (by rw [hlc]; omega), Int.toNat_natCast]
  by_cases c1 : k < A
  ·-- ahead of the hunk
   have hno : ¬ inH k (x :: l) := by
    rintro ⟨h, hh, h1, h2⟩
    rcases List.mem_cons.1 hh with rfl | hh
    ·rw [hx0] at h1; omega
    ·have := takes_ge a b l _ _ hr h hh
     omega
   refine ⟨fun h => absurd h hno, fun _ => ?_⟩
   have hcd : ∀ n, k < n → (a.set k s).drop n = a.drop n := fun n hn => drop_set_lt a k n s hn
   have hlp := (lineP_blk (a.set k s) bs t A (out ++ ((a.set k s).take A).drop d)).1 (by rw [hcd A c1, ← H.ho]; exact List.take_prefix _ _)
   have ht2 := takes_cong a b (a.set k s) hlc l _ _ (hcd _ (by omega)) hr
   obtain ⟨o, p, h1, h2, h3⟩ := takes_apply (a.set k s) b l _ _ (out ++ ((a.set k s).take A).drop d ++ newL bs t) ht2
   refine ⟨o, p, ?_, ?_, ?_⟩
   ·rw [allP, hone, hlp]; exact h1
   ·rw [h3]
    have hgl := congrArg List.length H.gap
    have := H.hB
    have := H.hd'
    simp only [List.length_append, List.length_drop, List.length_take, List.length_set, newL_len] at hgl ⊢
    omega
   ·rw [h3]
    refine List.mem_append_left _ (List.mem_append_left _ (List.mem_append_right _ ?_))
    rw [List.take_set, List.drop_set, if_neg (by omega)]
    exact List.mem_of_getElem? (List.getElem?_set_self (by rw [List.length_drop, List.length_take]; omega))
  ·by_cases c2 : k < A + (oldN bs + t.length)
   ·have hin : inH k (x :: l) := ⟨x, List.mem_cons_self, by rw [hx0]; omega, by rw [hx0, hx1]; omega⟩
    refine ⟨fun _ => ?_, fun h => absurd hin h⟩
    have hnp : ¬ oldL bs t <+: (a.set k s).drop A := by
     rintro ⟨r, hr⟩
     have h1 : (oldL bs t)[k - A]? = a[k]? := by
      rw [← H.ho, List.getElem?_take_of_lt (by omega), List.getElem?_drop, show A + (k - A) = k by omega]
     have h2 : (oldL bs t)[k - A]? = some s := by
      have := congrArg (fun z => z[k - A]?) hr
      rw [List.getElem?_append_left (by rw [oldL_len]; omega), List.getElem?_drop, show A + (k - A) = k by omega, List.getElem?_set_self hk] at this
      exact this
     exact hs (h1.symm.trans h2)
    rw [allP, hone, (lineP_blk (a.set k s) bs t A _).2 hnp]
   ·have hiff : inH k (x :: l) ↔ inH k l := by
     constructor
     ·rintro ⟨h, hh, h1, h2⟩
      rcases List.mem_cons.1 hh with rfl | hh
      ·rw [hx0, hx1] at h2; omega
      ·exact ⟨h, hh, h1, h2⟩
     ·rintro ⟨h, hh, h12⟩
      exact ⟨h, List.mem_cons_of_mem _ hh, h12⟩
    have htk : (a.set k s).take A = a.take A := by rw [List.take_set, List.set_eq_of_length_le (by rw [List.length_take]; omega)]
    have hpre : oldL bs t <+: (a.set k s).drop A := by
     have e : ((a.set k s).drop A).take (oldN bs + t.length) = oldL bs t := by
      rw [List.drop_set, if_neg (by omega), List.take_set, List.set_eq_of_length_le (by rw [List.length_take, List.length_drop]; omega), H.ho]
     rw [← e]; exact List.take_prefix _ _
    have hlp := (lineP_blk (a.set k s) bs t A (out ++ ((a.set k s).take A).drop d)).1 hpre
    have ih := exact_all a b k s hk hs l _ _ (out ++ ((a.set k s).take A).drop d ++ newL bs t) hr (by omega)
    have hal : allP (a.set k s) d out (x :: l) = allP (a.set k s) (A + (oldN bs + t.length)) (out ++ ((a.set k s).take A).drop d ++ newL bs t) l := by
     rw [allP, hone, hlp]
    rw [hal, hiff]
    refine ⟨ih.1, fun h => ?_⟩
    obtain ⟨o, p, h1, h2, h3⟩ := ih.2 h
    refine ⟨o, p, h1, ?_, h3⟩
    rw [h2, htk, H.gap]
    have := H.hB
    have := H.hd'
    simp only [List.length_append, List.length_drop, List.length_take, newL_len]
    omega
end Go.Proofs.Ytoaijganmfijmaa.Pr
-- shrunk
-- written by a program of this session's (a turned copy of the kit's printer); Lean checks it
namespace Go.Proofs.Ytoaijganmfijmaa.Pr
open Go.RowKit Go.Proofs.YtoaijganmfijmaaW.PrintWords Go.Proofs.YtoaijganmfijmaaW.PrintLast Go.Proofs.YtoaijganmfijmaaW.PrintMore
attribute [local go_sem] max2_int min2_int max_two min_two max_three min_three max_four min_four   -- for this text's walks alone
set_option linter.unusedVariables false
set_option linter.unusedSimpArgs false

def grapevineref05_One.f (k : Nat) (a0_0 : Int) (a0_1 : Int) (a0_2 : Int) (a0_3 : Int) (l0_4 : List ByteArray) (a1_0 : Int) (a1_1 : Int) (a1_2 : Int) (a1_3 : Int) (l1_4 : List ByteArray) : Option (Bool) := if a0_0 = a1_0 then (if a0_1 = a1_1 then (if a0_2 = a1_2 then (if a0_3 = a1_3 then ((grapevineref01_Texts.f k l0_4 l1_4).bind fun t114 => (some t114)) else (some false)) else (some false)) else (some false)) else (some false)
theorem grapevineref05_One.mono : ∀ a0 a1 a2 a3 a4 a5 a6 a7 a8 a9 k, LeO (grapevineref05_One.f k a0 a1 a2 a3 a4 a5 a6 a7 a8 a9) (grapevineref05_One.f (k + 1) a0 a1 a2 a3 a4 a5 a6 a7 a8 a9) := by
 intro a0 a1 a2 a3 a4 a5 a6 a7 a8 a9 k
 unfold grapevineref05_One.f
 repeat' first
   | (with_reducible exact grapevineref01_Texts.mono _ _ _)
   | (with_reducible exact LeO.refl _)
   | (with_reducible exact LeO.none _)
   | (with_reducible refine LeO.ite ?_ ?_)
   | (with_reducible refine LeO.bind ?_ (fun _ => ?_))
   | exact grapevineref01_Texts.mono _ _ _
   | exact LeO.none _
   | refine LeO.ite ?_ ?_
   | refine LeO.bind ?_ (fun _ => ?_)
set_option maxHeartbeats 8000000 in
set_option maxRecDepth 100000 in
theorem grapevineref05_One.calls (k : Nat) (a0_0 : Int) (a0_1 : Int) (a0_2 : Int) (a0_3 : Int) (A0_4 : Option Addr) (c0_4 : Nat) (l0_4 : List ByteArray) (a1_0 : Int) (a1_1 : Int) (a1_2 : Int) (a1_3 : Int) (A1_4 : Option Addr) (c1_4 : Nat) (l1_4 : List ByteArray) (r : Bool) (w : World) (hr0_4 : Kd.C Kd.string w A0_4 l0_4.length l0_4) (hc0_4 : l0_4.length ≤ c0_4) (hr1_4 : Kd.C Kd.string w A1_4 l1_4.length l1_4) (hc1_4 : l1_4.length ≤ c1_4) (h : grapevineref05_One.f k a0_0 a0_1 a0_2 a0_3 l0_4 a1_0 a1_1 a1_2 a1_3 l1_4 = some r) :
  Calls Try.prog 26 #[.agg #[.int .i64 a0_0, .int .i64 a0_1, .int .i64 a0_2, .int .i64 a0_3, .slice A0_4 l0_4.length c0_4], .agg #[.int .i64 a1_0, .int .i64 a1_1, .int .i64 a1_2, .int .i64 a1_3, .slice A1_4 l1_4.length c1_4]] w fun e w' => e = .returned (.bool r) ∧ Below w.heap.size w w' := by
 have hu41 := Try.underlying41
 have HR0_4 := Aside0.mk hr0_4
 have HC0_4 := Aside0.mk hc0_4
 clear hr0_4 hc0_4
 have HR1_4 := Aside0.mk hr1_4
 have HC1_4 := Aside0.mk hc1_4
 clear hr1_4 hc1_4
 have HB := Aside0.mk (Below.refl w.heap.size w)
 have H : (if a0_0 = a1_0 then (if a0_1 = a1_1 then (if a0_2 = a1_2 then (if a0_3 = a1_3 then ((grapevineref01_Texts.f k l0_4 l1_4).bind fun t114 => (some t114)) else (some false)) else (some false)) else (some false)) else (some false)) = some r := h
 clear h
 by_cases c3 : a0_0 = a1_0
 ·rw [if_pos c3] at H
  have c3b0 : (a0_0 == a1_0) = true := beq_iff_eq.mpr c3
  have c3b1 : (a0_0 != a1_0) = false := bne_eq_false_iff_eq.mpr c3
  clear c3
  by_cases c4 : a0_1 = a1_1
  ·rw [if_pos c4] at H
   have c4b0 : (a0_1 == a1_1) = true := beq_iff_eq.mpr c4
   have c4b1 : (a0_1 != a1_1) = false := bne_eq_false_iff_eq.mpr c4
   clear c4
   by_cases c5 : a0_2 = a1_2
   ·rw [if_pos c5] at H
    have c5b0 : (a0_2 == a1_2) = true := beq_iff_eq.mpr c5
    have c5b1 : (a0_2 != a1_2) = false := bne_eq_false_iff_eq.mpr c5
    clear c5
    by_cases c6 : a0_3 = a1_3
    ·rw [if_pos c6] at H
     have c6b0 : (a0_3 == a1_3) = true := beq_iff_eq.mpr c6
     have c6b1 : (a0_3 != a1_3) = false := bne_eq_false_iff_eq.mpr c6
     clear c6
     replace H := Option.bind_eq_some_iff.mp H
     obtain ⟨t114, A70, H⟩ := H
     replace H : (some t114) = some r := H
     have A7 := Aside0.mk A70
     clear A70
     obtain rfl := Option.some.inj H
     go_enter Try.func26, Try.ntmps26
     go_wp2_with (first | ((with_reducible refine gate_dst (N := 2) rfl ?_); refine box_event ?hg (N := 2) ?hd (cs := #[.int .i64 a0_0, .int .i64 a0_1, .int .i64 a0_2, .int .i64 a0_3, .slice A0_4 l0_4.length c0_4]) (t := 41) ?hr ?_; (case hd => rfl); (case hg => rfl); (case hr => first | (go_simp; done) | (go_simp; rfl)); intro gb112 hg w8 hbox hb; have n0_ := Aside0.mk (below_step (by repeat (first | (with_reducible first | exact HB.out | apply below_alloc | apply pw_below_drewN | apply below_drew1) | exact HB.out)) hb); have n1_ := Aside0.mk (hbox); have n2_ := Aside0.mk ((by rw [hg]; exact (below_size (by repeat (first | (with_reducible first | exact HB.out | apply below_alloc | apply pw_below_drewN | apply below_drew1) | exact HB.out))) : w.heap.size ≤ gb112)); have n3_ := Aside0.mk ((by rw [hg]; exact (below_size (by repeat (first | (with_reducible first | exact HB.out | apply below_alloc | apply pw_below_drewN | apply below_drew1) | exact HB.out))) : w.heap.size ≤ gb112)); clear HB; have HB := n0_; have BK112 := n1_; have GW112 := n2_; have GE112 := n3_; clear n0_ n1_ n2_ n3_; clear hb hbox hg) | ((with_reducible refine gate_dst (N := 3) rfl ?_); refine box_event ?hg (N := 3) ?hd (cs := #[.int .i64 a1_0, .int .i64 a1_1, .int .i64 a1_2, .int .i64 a1_3, .slice A1_4 l1_4.length c1_4]) (t := 41) ?hr ?_; (case hd => rfl); (case hg => rfl); (case hr => first | (go_simp; done) | (go_simp; rfl)); intro gb113 hg w9 hbox hb; have n0_ := Aside0.mk (blk_below (g := gb112) (o := .cells #[.int .i64 a0_0, .int .i64 a0_1, .int .i64 a0_2, .int .i64 a0_3, .slice A0_4 l0_4.length c0_4] 41 (0, 0)) (by (with_reducible repeat (first | refine blk_drewN ?_ _ | refine blk_drew ?_ | refine blk_alloc ?_ _)); exact BK112.out) hb); have n1_ := Aside0.mk (below_step (by repeat (first | (with_reducible first | exact HB.out | apply below_alloc | apply pw_below_drewN | apply below_drew1 | refine below_set ?_ GE112.out) | exact HB.out)) hb); have n2_ := Aside0.mk (hbox); have n3_ := Aside0.mk ((by rw [hg]; exact (below_size (by repeat (first | (with_reducible first | exact HB.out | apply below_alloc | apply pw_below_drewN | apply below_drew1 | refine below_set ?_ GE112.out) | exact HB.out))) : w.heap.size ≤ gb113)); have n4_ := Aside0.mk ((by rw [hg]; exact (below_size (by repeat (first | (with_reducible first | exact HB.out | apply below_alloc | apply pw_below_drewN | apply below_drew1 | refine below_set ?_ GE112.out) | exact HB.out))) : w.heap.size ≤ gb113)); have n5_ := Aside0.mk ((by rw [hg]; exact Nat.ne_of_lt (blk_lt (g := gb112) (o := .cells #[.int .i64 a0_0, .int .i64 a0_1, .int .i64 a0_2, .int .i64 a0_3, .slice A0_4 l0_4.length c0_4] 41 (0, 0)) (by (with_reducible repeat (first | refine blk_drewN ?_ _ | refine blk_drew ?_ | refine blk_alloc ?_ _)); exact BK112.out)) : gb112 ≠ gb113)); have n6_ := Aside0.mk ((by rw [hg]; exact Nat.ne_of_gt (blk_lt (g := gb112) (o := .cells #[.int .i64 a0_0, .int .i64 a0_1, .int .i64 a0_2, .int .i64 a0_3, .slice A0_4 l0_4.length c0_4] 41 (0, 0)) (by (with_reducible repeat (first | refine blk_drewN ?_ _ | refine blk_drew ?_ | refine blk_alloc ?_ _)); exact BK112.out)) : gb113 ≠ gb112)); clear BK112; clear HB; have BK112 := n0_; have HB := n1_; have BK113 := n2_; have GW113 := n3_; have GE113 := n4_; have NB112_113 := n5_; have NB113_112 := n6_; clear n0_ n1_ n2_ n3_ n4_ n5_ n6_; clear hb hbox hg; have hnb10 := NB112_113.out; have hnc10 := NB113_112.out; have hcz11_0 : w9.cell? ⟨gb112, 0, none⟩ = some (.int .i64 a0_0) := (blk_cell BK112.out 0).trans rfl; have hcz11_1 : w9.cell? ⟨gb112, 1, none⟩ = some (.int .i64 a0_1) := (blk_cell BK112.out 1).trans rfl; have hcz11_2 : w9.cell? ⟨gb112, 2, none⟩ = some (.int .i64 a0_2) := (blk_cell BK112.out 2).trans rfl; have hcz11_3 : w9.cell? ⟨gb112, 3, none⟩ = some (.int .i64 a0_3) := (blk_cell BK112.out 3).trans rfl; have hcz11_4 : w9.cell? ⟨gb112, 4, none⟩ = some (.slice A0_4 l0_4.length c0_4) := (blk_cell BK112.out 4).trans rfl; have hfz11_0 := blk_frozen BK112.out 0; have hfz11_1 := blk_frozen BK112.out 1; have hfz11_2 := blk_frozen BK112.out 2; have hfz11_3 := blk_frozen BK112.out 3; have hfz11_4 := blk_frozen BK112.out 4; have hcz12_0 : w9.cell? ⟨gb113, 0, none⟩ = some (.int .i64 a1_0) := (blk_cell BK113.out 0).trans rfl; have hcz12_1 : w9.cell? ⟨gb113, 1, none⟩ = some (.int .i64 a1_1) := (blk_cell BK113.out 1).trans rfl; have hcz12_2 : w9.cell? ⟨gb113, 2, none⟩ = some (.int .i64 a1_2) := (blk_cell BK113.out 2).trans rfl; have hcz12_3 : w9.cell? ⟨gb113, 3, none⟩ = some (.int .i64 a1_3) := (blk_cell BK113.out 3).trans rfl; have hcz12_4 : w9.cell? ⟨gb113, 4, none⟩ = some (.slice A1_4 l1_4.length c1_4) := (blk_cell BK113.out 4).trans rfl; have hfz12_0 := blk_frozen BK113.out 0; have hfz12_1 := blk_frozen BK113.out 1; have hfz12_2 := blk_frozen BK113.out 2; have hfz12_3 := blk_frozen BK113.out 3; have hfz12_4 := blk_frozen BK113.out 4) | (go_at_call 14; (with_reducible refine (grapevineref01_Texts.calls k _ _ l0_4 _ _ l1_4 t114 _ ?side1 ?side2 ?side3 ?side4 A7.out).mono ?_); (case side1 => repeat (first | exact (Kd.C_below HR0_4.out HB.out) | (with_reducible refine Kd.C_alloc ?_ _) | (with_reducible refine Kd.C_drewN ?_ _) | (with_reducible refine Kd.C_drew ?_))); (case side2 => exact HC0_4.out); (case side3 => repeat (first | exact (Kd.C_below HR1_4.out HB.out) | (with_reducible refine Kd.C_alloc ?_ _) | (with_reducible refine Kd.C_drewN ?_ _) | (with_reducible refine Kd.C_drew ?_))); (case side4 => exact HC1_4.out); rintro e w' ⟨rfl, ⟨nd, rfl⟩⟩))
     go_ret
     exact ⟨by first | rfl | (simp [errW_none, errW_some] <;> rfl) | (simp [*, errW_none, errW_some] <;> rfl), by repeat (first | (with_reducible first | exact HB.out | apply below_alloc | apply pw_below_drewN | apply below_drew1 | refine below_set ?_ GE112.out | refine below_set ?_ GE113.out) | exact HB.out)⟩
    ·rw [if_neg c6] at H
     have c6b0 : (a0_3 == a1_3) = false := beq_eq_false_iff_ne.mpr c6
     have c6b1 : (a0_3 != a1_3) = true := bne_iff_ne.mpr c6
     obtain rfl := Option.some.inj H
     go_enter Try.func26, Try.ntmps26
     go_wp2_with (first | ((with_reducible refine gate_dst (N := 2) rfl ?_); refine box_event ?hg (N := 2) ?hd (cs := #[.int .i64 a0_0, .int .i64 a0_1, .int .i64 a0_2, .int .i64 a0_3, .slice A0_4 l0_4.length c0_4]) (t := 41) ?hr ?_; (case hd => rfl); (case hg => rfl); (case hr => first | (go_simp; done) | (go_simp; rfl)); intro gb112 hg w13 hbox hb; have n0_ := Aside0.mk (below_step (by repeat (first | (with_reducible first | exact HB.out | apply below_alloc | apply pw_below_drewN | apply below_drew1) | exact HB.out)) hb); have n1_ := Aside0.mk (hbox); have n2_ := Aside0.mk ((by rw [hg]; exact (below_size (by repeat (first | (with_reducible first | exact HB.out | apply below_alloc | apply pw_below_drewN | apply below_drew1) | exact HB.out))) : w.heap.size ≤ gb112)); have n3_ := Aside0.mk ((by rw [hg]; exact (below_size (by repeat (first | (with_reducible first | exact HB.out | apply below_alloc | apply pw_below_drewN | apply below_drew1) | exact HB.out))) : w.heap.size ≤ gb112)); clear HB; have HB := n0_; have BK112 := n1_; have GW112 := n2_; have GE112 := n3_; clear n0_ n1_ n2_ n3_; clear hb hbox hg) | ((with_reducible refine gate_dst (N := 3) rfl ?_); refine box_event ?hg (N := 3) ?hd (cs := #[.int .i64 a1_0, .int .i64 a1_1, .int .i64 a1_2, .int .i64 a1_3, .slice A1_4 l1_4.length c1_4]) (t := 41) ?hr ?_; (case hd => rfl); (case hg => rfl); (case hr => first | (go_simp; done) | (go_simp; rfl)); intro gb113 hg w14 hbox hb; have n0_ := Aside0.mk (blk_below (g := gb112) (o := .cells #[.int .i64 a0_0, .int .i64 a0_1, .int .i64 a0_2, .int .i64 a0_3, .slice A0_4 l0_4.length c0_4] 41 (0, 0)) (by (with_reducible repeat (first | refine blk_drewN ?_ _ | refine blk_drew ?_ | refine blk_alloc ?_ _)); exact BK112.out) hb); have n1_ := Aside0.mk (below_step (by repeat (first | (with_reducible first | exact HB.out | apply below_alloc | apply pw_below_drewN | apply below_drew1 | refine below_set ?_ GE112.out) | exact HB.out)) hb); have n2_ := Aside0.mk (hbox); have n3_ := Aside0.mk ((by rw [hg]; exact (below_size (by repeat (first | (with_reducible first | exact HB.out | apply below_alloc | apply pw_below_drewN | apply below_drew1 | refine below_set ?_ GE112.out) | exact HB.out))) : w.heap.size ≤ gb113)); have n4_ := Aside0.mk ((by rw [hg]; exact (below_size (by repeat (first | (with_reducible first | exact HB.out | apply below_alloc | apply pw_below_drewN | apply below_drew1 | refine below_set ?_ GE112.out) | exact HB.out))) : w.heap.size ≤ gb113)); have n5_ := Aside0.mk ((by rw [hg]; exact Nat.ne_of_lt (blk_lt (g := gb112) (o := .cells #[.int .i64 a0_0, .int .i64 a0_1, .int .i64 a0_2, .int .i64 a0_3, .slice A0_4 l0_4.length c0_4] 41 (0, 0)) (by (with_reducible repeat (first | refine blk_drewN ?_ _ | refine blk_drew ?_ | refine blk_alloc ?_ _)); exact BK112.out)) : gb112 ≠ gb113)); have n6_ := Aside0.mk ((by rw [hg]; exact Nat.ne_of_gt (blk_lt (g := gb112) (o := .cells #[.int .i64 a0_0, .int .i64 a0_1, .int .i64 a0_2, .int .i64 a0_3, .slice A0_4 l0_4.length c0_4] 41 (0, 0)) (by (with_reducible repeat (first | refine blk_drewN ?_ _ | refine blk_drew ?_ | refine blk_alloc ?_ _)); exact BK112.out)) : gb113 ≠ gb112)); clear BK112; clear HB; have BK112 := n0_; have HB := n1_; have BK113 := n2_; have GW113 := n3_; have GE113 := n4_; have NB112_113 := n5_; have NB113_112 := n6_; clear n0_ n1_ n2_ n3_ n4_ n5_ n6_; clear hb hbox hg; have hnb15 := NB112_113.out; have hnc15 := NB113_112.out; have hcz16_0 : w14.cell? ⟨gb112, 0, none⟩ = some (.int .i64 a0_0) := (blk_cell BK112.out 0).trans rfl; have hcz16_1 : w14.cell? ⟨gb112, 1, none⟩ = some (.int .i64 a0_1) := (blk_cell BK112.out 1).trans rfl; have hcz16_2 : w14.cell? ⟨gb112, 2, none⟩ = some (.int .i64 a0_2) := (blk_cell BK112.out 2).trans rfl; have hcz16_3 : w14.cell? ⟨gb112, 3, none⟩ = some (.int .i64 a0_3) := (blk_cell BK112.out 3).trans rfl; have hcz16_4 : w14.cell? ⟨gb112, 4, none⟩ = some (.slice A0_4 l0_4.length c0_4) := (blk_cell BK112.out 4).trans rfl; have hfz16_0 := blk_frozen BK112.out 0; have hfz16_1 := blk_frozen BK112.out 1; have hfz16_2 := blk_frozen BK112.out 2; have hfz16_3 := blk_frozen BK112.out 3; have hfz16_4 := blk_frozen BK112.out 4; have hcz17_0 : w14.cell? ⟨gb113, 0, none⟩ = some (.int .i64 a1_0) := (blk_cell BK113.out 0).trans rfl; have hcz17_1 : w14.cell? ⟨gb113, 1, none⟩ = some (.int .i64 a1_1) := (blk_cell BK113.out 1).trans rfl; have hcz17_2 : w14.cell? ⟨gb113, 2, none⟩ = some (.int .i64 a1_2) := (blk_cell BK113.out 2).trans rfl; have hcz17_3 : w14.cell? ⟨gb113, 3, none⟩ = some (.int .i64 a1_3) := (blk_cell BK113.out 3).trans rfl; have hcz17_4 : w14.cell? ⟨gb113, 4, none⟩ = some (.slice A1_4 l1_4.length c1_4) := (blk_cell BK113.out 4).trans rfl; have hfz17_0 := blk_frozen BK113.out 0; have hfz17_1 := blk_frozen BK113.out 1; have hfz17_2 := blk_frozen BK113.out 2; have hfz17_3 := blk_frozen BK113.out 3; have hfz17_4 := blk_frozen BK113.out 4))
     go_ret
     exact ⟨by first | rfl | (simp [errW_none, errW_some] <;> rfl) | (simp [*, errW_none, errW_some] <;> rfl), by repeat (first | (with_reducible first | exact HB.out | apply below_alloc | apply pw_below_drewN | apply below_drew1 | refine below_set ?_ GE112.out | refine below_set ?_ GE113.out) | exact HB.out)⟩
   ·rw [if_neg c5] at H
    have c5b0 : (a0_2 == a1_2) = false := beq_eq_false_iff_ne.mpr c5
    have c5b1 : (a0_2 != a1_2) = true := bne_iff_ne.mpr c5
    obtain rfl := Option.some.inj H
    go_enter Try.func26, Try.ntmps26
    go_wp2_with (first | ((with_reducible refine gate_dst (N := 2) rfl ?_); refine box_event ?hg (N := 2) ?hd (cs := #[.int .i64 a0_0, .int .i64 a0_1, .int .i64 a0_2, .int .i64 a0_3, .slice A0_4 l0_4.length c0_4]) (t := 41) ?hr ?_; (case hd => rfl); (case hg => rfl); (case hr => first | (go_simp; done) | (go_simp; rfl)); intro gb112 hg w18 hbox hb; have n0_ := Aside0.mk (below_step (by repeat (first | (with_reducible first | exact HB.out | apply below_alloc | apply pw_below_drewN | apply below_drew1) | exact HB.out)) hb); have n1_ := Aside0.mk (hbox); have n2_ := Aside0.mk ((by rw [hg]; exact (below_size (by repeat (first | (with_reducible first | exact HB.out | apply below_alloc | apply pw_below_drewN | apply below_drew1) | exact HB.out))) : w.heap.size ≤ gb112)); have n3_ := Aside0.mk ((by rw [hg]; exact (below_size (by repeat (first | (with_reducible first | exact HB.out | apply below_alloc | apply pw_below_drewN | apply below_drew1) | exact HB.out))) : w.heap.size ≤ gb112)); clear HB; have HB := n0_; have BK112 := n1_; have GW112 := n2_; have GE112 := n3_; clear n0_ n1_ n2_ n3_; clear hb hbox hg) | ((with_reducible refine gate_dst (N := 3) rfl ?_); refine box_event ?hg (N := 3) ?hd (cs := #[.int .i64 a1_0, .int .i64 a1_1, .int .i64 a1_2, .int .i64 a1_3, .slice A1_4 l1_4.length c1_4]) (t := 41) ?hr ?_; (case hd => rfl); (case hg => rfl); (case hr => first | (go_simp; done) | (go_simp; rfl)); intro gb113 hg w19 hbox hb; have n0_ := Aside0.mk (blk_below (g := gb112) (o := .cells #[.int .i64 a0_0, .int .i64 a0_1, .int .i64 a0_2, .int .i64 a0_3, .slice A0_4 l0_4.length c0_4] 41 (0, 0)) (by (with_reducible repeat (first | refine blk_drewN ?_ _ | refine blk_drew ?_ | refine blk_alloc ?_ _)); exact BK112.out) hb); have n1_ := Aside0.mk (below_step (by repeat (first | (with_reducible first | exact HB.out | apply below_alloc | apply pw_below_drewN | apply below_drew1 | refine below_set ?_ GE112.out) | exact HB.out)) hb); have n2_ := Aside0.mk (hbox); have n3_ := Aside0.mk ((by rw [hg]; exact (below_size (by repeat (first | (with_reducible first | exact HB.out | apply below_alloc | apply pw_below_drewN | apply below_drew1 | refine below_set ?_ GE112.out) | exact HB.out))) : w.heap.size ≤ gb113)); have n4_ := Aside0.mk ((by rw [hg]; exact (below_size (by repeat (first | (with_reducible first | exact HB.out | apply below_alloc | apply pw_below_drewN | apply below_drew1 | refine below_set ?_ GE112.out) | exact HB.out))) : w.heap.size ≤ gb113)); have n5_ := Aside0.mk ((by rw [hg]; exact Nat.ne_of_lt (blk_lt (g := gb112) (o := .cells #[.int .i64 a0_0, .int .i64 a0_1, .int .i64 a0_2, .int .i64 a0_3, .slice A0_4 l0_4.length c0_4] 41 (0, 0)) (by (with_reducible repeat (first | refine blk_drewN ?_ _ | refine blk_drew ?_ | refine blk_alloc ?_ _)); exact BK112.out)) : gb112 ≠ gb113)); have n6_ := Aside0.mk ((by rw [hg]; exact Nat.ne_of_gt (blk_lt (g := gb112) (o := .cells #[.int .i64 a0_0, .int .i64 a0_1, .int .i64 a0_2, .int .i64 a0_3, .slice A0_4 l0_4.length c0_4] 41 (0, 0)) (by (with_reducible repeat (first | refine blk_drewN ?_ _ | refine blk_drew ?_ | refine blk_alloc ?_ _)); exact BK112.out)) : gb113 ≠ gb112)); clear BK112; clear HB; have BK112 := n0_; have HB := n1_; have BK113 := n2_; have GW113 := n3_; have GE113 := n4_; have NB112_113 := n5_; have NB113_112 := n6_; clear n0_ n1_ n2_ n3_ n4_ n5_ n6_; clear hb hbox hg; have hnb20 := NB112_113.out; have hnc20 := NB113_112.out; have hcz21_0 : w19.cell? ⟨gb112, 0, none⟩ = some (.int .i64 a0_0) := (blk_cell BK112.out 0).trans rfl; have hcz21_1 : w19.cell? ⟨gb112, 1, none⟩ = some (.int .i64 a0_1) := (blk_cell BK112.out 1).trans rfl; have hcz21_2 : w19.cell? ⟨gb112, 2, none⟩ = some (.int .i64 a0_2) := (blk_cell BK112.out 2).trans rfl; have hcz21_3 : w19.cell? ⟨gb112, 3, none⟩ = some (.int .i64 a0_3) := (blk_cell BK112.out 3).trans rfl; have hcz21_4 : w19.cell? ⟨gb112, 4, none⟩ = some (.slice A0_4 l0_4.length c0_4) := (blk_cell BK112.out 4).trans rfl; have hfz21_0 := blk_frozen BK112.out 0; have hfz21_1 := blk_frozen BK112.out 1; have hfz21_2 := blk_frozen BK112.out 2; have hfz21_3 := blk_frozen BK112.out 3; have hfz21_4 := blk_frozen BK112.out 4; have hcz22_0 : w19.cell? ⟨gb113, 0, none⟩ = some (.int .i64 a1_0) := (blk_cell BK113.out 0).trans rfl; have hcz22_1 : w19.cell? ⟨gb113, 1, none⟩ = some (.int .i64 a1_1) := (blk_cell BK113.out 1).trans rfl; have hcz22_2 : w19.cell? ⟨gb113, 2, none⟩ = some (.int .i64 a1_2) := (blk_cell BK113.out 2).trans rfl; have hcz22_3 : w19.cell? ⟨gb113, 3, none⟩ = some (.int .i64 a1_3) := (blk_cell BK113.out 3).trans rfl; have hcz22_4 : w19.cell? ⟨gb113, 4, none⟩ = some (.slice A1_4 l1_4.length c1_4) := (blk_cell BK113.out 4).trans rfl; have hfz22_0 := blk_frozen BK113.out 0; have hfz22_1 := blk_frozen BK113.out 1; have hfz22_2 := blk_frozen BK113.out 2; have hfz22_3 := blk_frozen BK113.out 3; have hfz22_4 := blk_frozen BK113.out 4))
    go_ret
    exact ⟨by first | rfl | (simp [errW_none, errW_some] <;> rfl) | (simp [*, errW_none, errW_some] <;> rfl), by repeat (first | (with_reducible first | exact HB.out | apply below_alloc | apply pw_below_drewN | apply below_drew1 | refine below_set ?_ GE112.out | refine below_set ?_ GE113.out) | exact HB.out)⟩
  ·rw [if_neg c4] at H
   have c4b0 : (a0_1 == a1_1) = false := beq_eq_false_iff_ne.mpr c4
   have c4b1 : (a0_1 != a1_1) = true := bne_iff_ne.mpr c4
   obtain rfl := Option.some.inj H
   go_enter Try.func26, Try.ntmps26
   go_wp2_with (first | ((with_reducible refine gate_dst (N := 2) rfl ?_); refine box_event ?hg (N := 2) ?hd (cs := #[.int .i64 a0_0, .int .i64 a0_1, .int .i64 a0_2, .int .i64 a0_3, .slice A0_4 l0_4.length c0_4]) (t := 41) ?hr ?_; (case hd => rfl); (case hg => rfl); (case hr => first | (go_simp; done) | (go_simp; rfl)); intro gb112 hg w23 hbox hb; have n0_ := Aside0.mk (below_step (by repeat (first | (with_reducible first | exact HB.out | apply below_alloc | apply pw_below_drewN | apply below_drew1) | exact HB.out)) hb); have n1_ := Aside0.mk (hbox); have n2_ := Aside0.mk ((by rw [hg]; exact (below_size (by repeat (first | (with_reducible first | exact HB.out | apply below_alloc | apply pw_below_drewN | apply below_drew1) | exact HB.out))) : w.heap.size ≤ gb112)); have n3_ := Aside0.mk ((by rw [hg]; exact (below_size (by repeat (first | (with_reducible first | exact HB.out | apply below_alloc | apply pw_below_drewN | apply below_drew1) | exact HB.out))) : w.heap.size ≤ gb112)); clear HB; have HB := n0_; have BK112 := n1_; have GW112 := n2_; have GE112 := n3_; clear n0_ n1_ n2_ n3_; clear hb hbox hg) | ((with_reducible refine gate_dst (N := 3) rfl ?_); refine box_event ?hg (N := 3) ?hd (cs := #[.int .i64 a1_0, .int .i64 a1_1, .int .i64 a1_2, .int .i64 a1_3, .slice A1_4 l1_4.length c1_4]) (t := 41) ?hr ?_; (case hd => rfl); (case hg => rfl); (case hr => first | (go_simp; done) | (go_simp; rfl)); intro gb113 hg w24 hbox hb; have n0_ := Aside0.mk (blk_below (g := gb112) (o := .cells #[.int .i64 a0_0, .int .i64 a0_1, .int .i64 a0_2, .int .i64 a0_3, .slice A0_4 l0_4.length c0_4] 41 (0, 0)) (by (with_reducible repeat (first | refine blk_drewN ?_ _ | refine blk_drew ?_ | refine blk_alloc ?_ _)); exact BK112.out) hb); have n1_ := Aside0.mk (below_step (by repeat (first | (with_reducible first | exact HB.out | apply below_alloc | apply pw_below_drewN | apply below_drew1 | refine below_set ?_ GE112.out) | exact HB.out)) hb); have n2_ := Aside0.mk (hbox); have n3_ := Aside0.mk ((by rw [hg]; exact (below_size (by repeat (first | (with_reducible first | exact HB.out | apply below_alloc | apply pw_below_drewN | apply below_drew1 | refine below_set ?_ GE112.out) | exact HB.out))) : w.heap.size ≤ gb113)); have n4_ := Aside0.mk ((by rw [hg]; exact (below_size (by repeat (first | (with_reducible first | exact HB.out | apply below_alloc | apply pw_below_drewN | apply below_drew1 | refine below_set ?_ GE112.out) | exact HB.out))) : w.heap.size ≤ gb113)); have n5_ := Aside0.mk ((by rw [hg]; exact Nat.ne_of_lt (blk_lt (g := gb112) (o := .cells #[.int .i64 a0_0, .int .i64 a0_1, .int .i64 a0_2, .int .i64 a0_3, .slice A0_4 l0_4.length c0_4] 41 (0, 0)) (by (with_reducible repeat (first | refine blk_drewN ?_ _ | refine blk_drew ?_ | refine blk_alloc ?_ _)); exact BK112.out)) : gb112 ≠ gb113)); have n6_ := Aside0.mk ((by rw [hg]; exact Nat.ne_of_gt (blk_lt (g := gb112) (o := .cells #[.int .i64 a0_0, .int .i64 a0_1, .int .i64 a0_2, .int .i64 a0_3, .slice A0_4 l0_4.length c0_4] 41 (0, 0)) (by (with_reducible repeat (first | refine blk_drewN ?_ _ | refine blk_drew ?_ | refine blk_alloc ?_ _)); exact BK112.out)) : gb113 ≠ gb112)); clear BK112; clear HB; have BK112 := n0_; have HB := n1_; have BK113 := n2_; have GW113 := n3_; have GE113 := n4_; have NB112_113 := n5_; have NB113_112 := n6_; clear n0_ n1_ n2_ n3_ n4_ n5_ n6_; clear hb hbox hg; have hnb25 := NB112_113.out; have hnc25 := NB113_112.out; have hcz26_0 : w24.cell? ⟨gb112, 0, none⟩ = some (.int .i64 a0_0) := (blk_cell BK112.out 0).trans rfl; have hcz26_1 : w24.cell? ⟨gb112, 1, none⟩ = some (.int .i64 a0_1) := (blk_cell BK112.out 1).trans rfl; have hcz26_2 : w24.cell? ⟨gb112, 2, none⟩ = some (.int .i64 a0_2) := (blk_cell BK112.out 2).trans rfl; have hcz26_3 : w24.cell? ⟨gb112, 3, none⟩ = some (.int .i64 a0_3) := (blk_cell BK112.out 3).trans rfl; have hcz26_4 : w24.cell? ⟨gb112, 4, none⟩ = some (.slice A0_4 l0_4.length c0_4) := (blk_cell BK112.out 4).trans rfl; have hfz26_0 := blk_frozen BK112.out 0; have hfz26_1 := blk_frozen BK112.out 1; have hfz26_2 := blk_frozen BK112.out 2; have hfz26_3 := blk_frozen BK112.out 3; have hfz26_4 := blk_frozen BK112.out 4; have hcz27_0 : w24.cell? ⟨gb113, 0, none⟩ = some (.int .i64 a1_0) := (blk_cell BK113.out 0).trans rfl; have hcz27_1 : w24.cell? ⟨gb113, 1, none⟩ = some (.int .i64 a1_1) := (blk_cell BK113.out 1).trans rfl; have hcz27_2 : w24.cell? ⟨gb113, 2, none⟩ = some (.int .i64 a1_2) := (blk_cell BK113.out 2).trans rfl; have hcz27_3 : w24.cell? ⟨gb113, 3, none⟩ = some (.int .i64 a1_3) := (blk_cell BK113.out 3).trans rfl; have hcz27_4 : w24.cell? ⟨gb113, 4, none⟩ = some (.slice A1_4 l1_4.length c1_4) := (blk_cell BK113.out 4).trans rfl; have hfz27_0 := blk_frozen BK113.out 0; have hfz27_1 := blk_frozen BK113.out 1; have hfz27_2 := blk_frozen BK113.out 2; have hfz27_3 := blk_frozen BK113.out 3; have hfz27_4 := blk_frozen BK113.out 4))
   go_ret
   exact ⟨by first | rfl | (simp [errW_none, errW_some] <;> rfl) | (simp [*, errW_none, errW_some] <;> rfl), by repeat (first | (with_reducible first | exact HB.out | apply below_alloc | apply pw_below_drewN | apply below_drew1 | refine below_set ?_ GE112.out | refine below_set ?_ GE113.out) | exact HB.out)⟩
 ·rw [if_neg c3] at H
  have c3b0 : (a0_0 == a1_0) = false := beq_eq_false_iff_ne.mpr c3
  have c3b1 : (a0_0 != a1_0) = true := bne_iff_ne.mpr c3
  obtain rfl := Option.some.inj H
  go_enter Try.func26, Try.ntmps26
  go_wp2_with (first | ((with_reducible refine gate_dst (N := 2) rfl ?_); refine box_event ?hg (N := 2) ?hd (cs := #[.int .i64 a0_0, .int .i64 a0_1, .int .i64 a0_2, .int .i64 a0_3, .slice A0_4 l0_4.length c0_4]) (t := 41) ?hr ?_; (case hd => rfl); (case hg => rfl); (case hr => first | (go_simp; done) | (go_simp; rfl)); intro gb112 hg w28 hbox hb; have n0_ := Aside0.mk (below_step (by repeat (first | (with_reducible first | exact HB.out | apply below_alloc | apply pw_below_drewN | apply below_drew1) | exact HB.out)) hb); have n1_ := Aside0.mk (hbox); have n2_ := Aside0.mk ((by rw [hg]; exact (below_size (by repeat (first | (with_reducible first | exact HB.out | apply below_alloc | apply pw_below_drewN | apply below_drew1) | exact HB.out))) : w.heap.size ≤ gb112)); have n3_ := Aside0.mk ((by rw [hg]; exact (below_size (by repeat (first | (with_reducible first | exact HB.out | apply below_alloc | apply pw_below_drewN | apply below_drew1) | exact HB.out))) : w.heap.size ≤ gb112)); clear HB; have HB := n0_; have BK112 := n1_; have GW112 := n2_; have GE112 := n3_; clear n0_ n1_ n2_ n3_; clear hb hbox hg) | ((with_reducible refine gate_dst (N := 3) rfl ?_); refine box_event ?hg (N := 3) ?hd (cs := #[.int .i64 a1_0, .int .i64 a1_1, .int .i64 a1_2, .int .i64 a1_3, .slice A1_4 l1_4.length c1_4]) (t := 41) ?hr ?_; (case hd => rfl); (case hg => rfl); (case hr => first | (go_simp; done) | (go_simp; rfl)); intro gb113 hg w29 hbox hb; have n0_ := Aside0.mk (blk_below (g := gb112) (o := .cells #[.int .i64 a0_0, .int .i64 a0_1, .int .i64 a0_2, .int .i64 a0_3, .slice A0_4 l0_4.length c0_4] 41 (0, 0)) (by (with_reducible repeat (first | refine blk_drewN ?_ _ | refine blk_drew ?_ | refine blk_alloc ?_ _)); exact BK112.out) hb); have n1_ := Aside0.mk (below_step (by repeat (first | (with_reducible first | exact HB.out | apply below_alloc | apply pw_below_drewN | apply below_drew1 | refine below_set ?_ GE112.out) | exact HB.out)) hb); have n2_ := Aside0.mk (hbox); have n3_ := Aside0.mk ((by rw [hg]; exact (below_size (by repeat (first | (with_reducible first | exact HB.out | apply below_alloc | apply pw_below_drewN | apply below_drew1 | refine below_set ?_ GE112.out) | exact HB.out))) : w.heap.size ≤ gb113)); have n4_ := Aside0.mk ((by rw [hg]; exact (below_size (by repeat (first | (with_reducible first | exact HB.out | apply below_alloc | apply pw_below_drewN | apply below_drew1 | refine below_set ?_ GE112.out) | exact HB.out))) : w.heap.size ≤ gb113)); have n5_ := Aside0.mk ((by rw [hg]; exact Nat.ne_of_lt (blk_lt (g := gb112) (o := .cells #[.int .i64 a0_0, .int .i64 a0_1, .int .i64 a0_2, .int .i64 a0_3, .slice A0_4 l0_4.length c0_4] 41 (0, 0)) (by (with_reducible repeat (first | refine blk_drewN ?_ _ | refine blk_drew ?_ | refine blk_alloc ?_ _)); exact BK112.out)) : gb112 ≠ gb113)); have n6_ := Aside0.mk ((by rw [hg]; exact Nat.ne_of_gt (blk_lt (g := gb112) (o := .cells #[.int .i64 a0_0, .int .i64 a0_1, .int .i64 a0_2, .int .i64 a0_3, .slice A0_4 l0_4.length c0_4] 41 (0, 0)) (by (with_reducible repeat (first | refine blk_drewN ?_ _ | refine blk_drew ?_ | refine blk_alloc ?_ _)); exact BK112.out)) : gb113 ≠ gb112)); clear BK112; clear HB; have BK112 := n0_; have HB := n1_; have BK113 := n2_; have GW113 := n3_; have GE113 := n4_; have NB112_113 := n5_; have NB113_112 := n6_; clear n0_ n1_ n2_ n3_ n4_ n5_ n6_; clear hb hbox hg; have hnb30 := NB112_113.out; have hnc30 := NB113_112.out; have hcz31_0 : w29.cell? ⟨gb112, 0, none⟩ = some (.int .i64 a0_0) := (blk_cell BK112.out 0).trans rfl; have hcz31_1 : w29.cell? ⟨gb112, 1, none⟩ = some (.int .i64 a0_1) := (blk_cell BK112.out 1).trans rfl; have hcz31_2 : w29.cell? ⟨gb112, 2, none⟩ = some (.int .i64 a0_2) := (blk_cell BK112.out 2).trans rfl; have hcz31_3 : w29.cell? ⟨gb112, 3, none⟩ = some (.int .i64 a0_3) := (blk_cell BK112.out 3).trans rfl; have hcz31_4 : w29.cell? ⟨gb112, 4, none⟩ = some (.slice A0_4 l0_4.length c0_4) := (blk_cell BK112.out 4).trans rfl; have hfz31_0 := blk_frozen BK112.out 0; have hfz31_1 := blk_frozen BK112.out 1; have hfz31_2 := blk_frozen BK112.out 2; have hfz31_3 := blk_frozen BK112.out 3; have hfz31_4 := blk_frozen BK112.out 4; have hcz32_0 : w29.cell? ⟨gb113, 0, none⟩ = some (.int .i64 a1_0) := (blk_cell BK113.out 0).trans rfl; have hcz32_1 : w29.cell? ⟨gb113, 1, none⟩ = some (.int .i64 a1_1) := (blk_cell BK113.out 1).trans rfl; have hcz32_2 : w29.cell? ⟨gb113, 2, none⟩ = some (.int .i64 a1_2) := (blk_cell BK113.out 2).trans rfl; have hcz32_3 : w29.cell? ⟨gb113, 3, none⟩ = some (.int .i64 a1_3) := (blk_cell BK113.out 3).trans rfl; have hcz32_4 : w29.cell? ⟨gb113, 4, none⟩ = some (.slice A1_4 l1_4.length c1_4) := (blk_cell BK113.out 4).trans rfl; have hfz32_0 := blk_frozen BK113.out 0; have hfz32_1 := blk_frozen BK113.out 1; have hfz32_2 := blk_frozen BK113.out 2; have hfz32_3 := blk_frozen BK113.out 3; have hfz32_4 := blk_frozen BK113.out 4))
  go_ret
  exact ⟨by first | rfl | (simp [errW_none, errW_some] <;> rfl) | (simp [*, errW_none, errW_some] <;> rfl), by repeat (first | (with_reducible first | exact HB.out | apply below_alloc | apply pw_below_drewN | apply below_drew1 | refine below_set ?_ GE112.out | refine below_set ?_ GE113.out) | exact HB.out)⟩

end Go.Proofs.Ytoaijganmfijmaa.Pr
-- shrunk
-- written by a program of this session's (a turned copy of the kit's printer); Lean checks it
namespace Go.Proofs.Ytoaijganmfijmaa.Pr
open Go.RowKit Go.Proofs.YtoaijganmfijmaaW.PrintWords Go.Proofs.YtoaijganmfijmaaW.PrintLast Go.Proofs.YtoaijganmfijmaaW.PrintMore
attribute [local go_sem] max2_int min2_int max_two min_two max_three min_three max_four min_four   -- for this text's walks alone
set_option linter.unusedVariables false
set_option linter.unusedSimpArgs false

def grapevineref05_Same.l0 : Nat → List (S41) → List (S41) → Int → Option (Bool)
 | 0, _, _, _ => none
 | k + 1, x0, x1, x5 => if x5 < (x0.length : Int) then (if 0 ≤ x5 then (if x5 < (x1.length : Int) then ((grapevineref05_One.f k ((rd_T41 x0 x5).f0) ((rd_T41 x0 x5).f1) ((rd_T41 x0 x5).f2) ((rd_T41 x0 x5).f3) ((rd_T41 x0 x5).f4) ((rd_T41 x1 x5).f0) ((rd_T41 x1 x5).f1) ((rd_T41 x1 x5).f2) ((rd_T41 x1 x5).f3) ((rd_T41 x1 x5).f4)).bind fun t117 => (if t117 = true then (grapevineref05_Same.l0 k x0 x1 (wrap64 (x5 + 1))) else (some false))) else (none)) else (none)) else (some true)
def grapevineref05_Same.f (k : Nat) (l0 : List (S41)) (l1 : List (S41)) : Option (Bool) := if (l0.length : Int) = (l1.length : Int) then (grapevineref05_Same.l0 k l0 l1 0) else (some false)
theorem grapevineref05_Same.mono_l : ∀ k, (∀ y0 y1 y2, LeO (grapevineref05_Same.l0 k y0 y1 y2) (grapevineref05_Same.l0 (k + 1) y0 y1 y2))
 | 0 => fun _ _ _ r h => by simp [grapevineref05_Same.l0] at h
 | k + 1 => by
  have ih0 := grapevineref05_Same.mono_l k
  ·intro y0 y1 y2
   unfold grapevineref05_Same.l0
   repeat' first
   | (with_reducible exact ih0 _ _ _)
   | (with_reducible exact grapevineref05_One.mono _ _ _ _ _ _ _ _ _ _ _)
   | (with_reducible exact LeO.refl _)
   | (with_reducible exact LeO.none _)
   | (with_reducible refine LeO.ite ?_ ?_)
   | (with_reducible refine LeO.bind ?_ (fun _ => ?_))
   | exact ih0 _ _ _
   | exact grapevineref05_One.mono _ _ _ _ _ _ _ _ _ _ _
   | exact LeO.none _
   | refine LeO.ite ?_ ?_
   | refine LeO.bind ?_ (fun _ => ?_)
theorem grapevineref05_Same.mono : ∀ a0 a1 k, LeO (grapevineref05_Same.f k a0 a1) (grapevineref05_Same.f (k + 1) a0 a1) := by
 intro a0 a1 k
 have ih0 := grapevineref05_Same.mono_l k
 unfold grapevineref05_Same.f
 repeat' first
   | (with_reducible exact ih0 _ _ _)
   | (with_reducible exact grapevineref05_One.mono _ _ _ _ _ _ _ _ _ _ _)
   | (with_reducible exact LeO.refl _)
   | (with_reducible exact LeO.none _)
   | (with_reducible refine LeO.ite ?_ ?_)
   | (with_reducible refine LeO.bind ?_ (fun _ => ?_))
   | exact ih0 _ _ _
   | exact grapevineref05_One.mono _ _ _ _ _ _ _ _ _ _ _
   | exact LeO.none _
   | refine LeO.ite ?_ ?_
   | refine LeO.bind ?_ (fun _ => ?_)
def grapevineref05_Same.T6 : Bool × List (List Nat × List Nat) := (true, [([], []), ([], []), ([0, 1], [0, 1]), ([2], [2]), ([], []), ([], []), ([4, 5], [4, 5]), ([6], [6]), ([3, 7], [3, 7]), ([8, 8, 0, 1, 2, 3, 4, 5, 6, 7, 8], [8])])
def grapevineref05_Same.B6 : List Nat := [0, 0, 3, 7, 0, 0, 48, 112, 255, 511]
theorem grapevineref05_Same.tab6 : rtab .any (opsOf Try.f17 6) = grapevineref05_Same.T6 := by kernel_rfl
theorem grapevineref05_Same.bits6 : waitsOk grapevineref05_Same.T6.2 grapevineref05_Same.B6 = true := by kernel_rfl
set_option maxHeartbeats 8000000 in
set_option maxRecDepth 100000 in
theorem grapevineref05_Same.calls (k : Nat) (A0 : Option Addr) (c0 : Nat) (l0 : List (S41)) (A1 : Option Addr) (c1 : Nat) (l1 : List (S41)) (r : Bool) (w : World) (hr0 : Kd.C k41 w A0 l0.length l0) (hc0 : l0.length ≤ c0) (hr1 : Kd.C k41 w A1 l1.length l1) (hc1 : l1.length ≤ c1) (h : grapevineref05_Same.f k l0 l1 = some r) :
  Calls Try.prog 17 #[.slice A0 l0.length c0, .slice A1 l1.length c1] w fun e w' => e = .returned (.bool r) ∧ Below w.heap.size w w' := by
 have hu41 := Try.underlying41
 have HR0 := Aside0.mk hr0
 have HC0 := Aside0.mk hc0
 clear hr0 hc0
 have HR1 := Aside0.mk hr1
 have HC1 := Aside0.mk hc1
 clear hr1 hc1
 have HB := Aside0.mk (Below.refl w.heap.size w)
 have H : (if (l0.length : Int) = (l1.length : Int) then (grapevineref05_Same.l0 k l0 l1 0) else (some false)) = some r := h
 clear h
 by_cases c3 : (l0.length : Int) = (l1.length : Int)
 ·rw [if_pos c3] at H
  have c3b0 : ((l0.length : Int) == (l1.length : Int)) = true := beq_iff_eq.mpr c3
  have c3b1 : ((l0.length : Int) != (l1.length : Int)) = false := bne_eq_false_iff_eq.mpr c3
  have c3b2 : (l0.length == l1.length) = true := by first | simpa using c3 | (simp at c3 ⊢; omega)
  clear c3
  have H' := Aside0.mk H
  clear H
  go_enter Try.func17, Try.ntmps17
  go_wp2
  go_loopg [5] k (fun kq v5 w' => ∃ (x5_1 : Int), v5 = .int .i64 x5_1 ∧ Aside0 (grapevineref05_Same.l0 kq l0 l1 x5_1 = some r) ∧ Aside0 (kq ≤ k) ∧ Aside0 (Below w.heap.size w w'))
  case atStart => exact ⟨(0), (by first | rfl | (simp; done) | (simp [*]; done)), H', ⟨Nat.le_refl _⟩, ⟨by repeat (first | (with_reducible first | exact HB.out | apply below_alloc | apply pw_below_drewN | apply below_drew1) | exact HB.out)⟩⟩
  case round =>
   clear H'
   try clear c1
   try clear p2
   try clear c3
   try clear c3b0
   try clear c3b1
   try clear c3b2
   obtain ⟨x5_1, rfl, HA, HK1, HB⟩ := hrel
   cases gk with
   | zero => exact absurd HA.out (by simp [grapevineref05_Same.l0])
   | succ k1 =>
    have H := HA.out
    clear HA
    simp only [grapevineref05_Same.l0] at H
    by_cases c4 : x5_1 < (l0.length : Int)
    ·rw [if_pos c4] at H
     have c4b0 : decide (x5_1 < (l0.length : Int)) = true := decide_eq_true c4
     clear c4
     by_cases c5 : 0 ≤ x5_1
     ·rw [if_pos c5] at H
      have c5b0 : decide (0 ≤ x5_1) = true := decide_eq_true c5
      clear c5
      by_cases c6 : x5_1 < (l1.length : Int)
      ·rw [if_pos c6] at H
       have c6b0 : decide (x5_1 < (l1.length : Int)) = true := decide_eq_true c6
       clear c6
       replace H := Option.bind_eq_some_iff.mp H
       obtain ⟨t117, A70, H⟩ := H
       replace H : (if t117 = true then (grapevineref05_Same.l0 k1 l0 l1 (wrap64 (x5_1 + 1))) else (some false)) = some r := H
       have A7 := Aside0.mk A70
       clear A70
       by_cases c8 : t117 = true
       ·subst c8
        have H1 : (grapevineref05_Same.l0 k1 l0 l1 (wrap64 (x5_1 + 1))) = some r := by rw [if_pos rfl] at H; exact H
        clear H
        have H := H1
        clear H1
        have H' := Aside0.mk H
        clear H
        try go_wp2
        have n0_ := Aside0.mk (below_drew1 HB.out)
        clear HB
        have HB := n0_
        clear n0_
        have p115 : 0 ≤ (x5_1 : Int) := of_decide_eq_true (by first | (with_reducible assumption) | assumption)
        have q115 : x5_1 < (l0.length : Int) := of_decide_eq_true (by first | (with_reducible assumption) | assumption)
        obtain ⟨ad115, A115_4, c115_4, e115, hx115_0, hx115_1, hx115_2, hx115_3, hx115_4, hl115_4, hi115_4⟩ := at_T41 HR0.out x5_1 p115 q115
        have hw115_4 := hx115_4
        have hw115_3 := hx115_3
        have hw115_2 := hx115_2
        have hw115_1 := hx115_1
        have hw115_0 := hx115_0
        cases e115
        replace hx115_0 := (HB.out.cell (World.block_lt_of_cell? w _ hx115_0)).trans hx115_0
        replace hx115_1 := (HB.out.cell (World.block_lt_of_cell? w _ hx115_1)).trans hx115_1
        replace hx115_2 := (HB.out.cell (World.block_lt_of_cell? w _ hx115_2)).trans hx115_2
        replace hx115_3 := (HB.out.cell (World.block_lt_of_cell? w _ hx115_3)).trans hx115_3
        replace hx115_4 := (HB.out.cell (World.block_lt_of_cell? w _ hx115_4)).trans hx115_4
        have HR115_4 := Aside0.mk hi115_4
        have HC115_4 := Aside0.mk hl115_4
        clear hi115_4 hl115_4
        replace p115 := eq_true p115
        replace q115 := eq_true q115
        have p116 : 0 ≤ (x5_1 : Int) := of_decide_eq_true (by first | (with_reducible assumption) | assumption)
        have q116 : x5_1 < (l1.length : Int) := of_decide_eq_true (by first | (with_reducible assumption) | assumption)
        obtain ⟨ad116, A116_4, c116_4, e116, hx116_0, hx116_1, hx116_2, hx116_3, hx116_4, hl116_4, hi116_4⟩ := at_T41 HR1.out x5_1 p116 q116
        have hw116_4 := hx116_4
        have hw116_3 := hx116_3
        have hw116_2 := hx116_2
        have hw116_1 := hx116_1
        have hw116_0 := hx116_0
        cases e116
        replace hx116_0 := (HB.out.cell (World.block_lt_of_cell? w _ hx116_0)).trans hx116_0
        replace hx116_1 := (HB.out.cell (World.block_lt_of_cell? w _ hx116_1)).trans hx116_1
        replace hx116_2 := (HB.out.cell (World.block_lt_of_cell? w _ hx116_2)).trans hx116_2
        replace hx116_3 := (HB.out.cell (World.block_lt_of_cell? w _ hx116_3)).trans hx116_3
        replace hx116_4 := (HB.out.cell (World.block_lt_of_cell? w _ hx116_4)).trans hx116_4
        have HR116_4 := Aside0.mk hi116_4
        have HC116_4 := Aside0.mk hl116_4
        clear hi116_4 hl116_4
        replace p116 := eq_true p116
        replace q116 := eq_true q116
        refine start_ (n := 10) (S := fun w' => w'.cell? (ad115.add ((x5_1).toNat * 5)) = some (.int .i64 ((rd_T41 l0 x5_1).f0)) ∧ w'.cell? ⟨(ad115.add ((x5_1).toNat * 5)).block, (ad115.add ((x5_1).toNat * 5)).off + 1, none⟩ = some (.int .i64 ((rd_T41 l0 x5_1).f1)) ∧ w'.cell? ⟨(ad115.add ((x5_1).toNat * 5)).block, (ad115.add ((x5_1).toNat * 5)).off + 2, none⟩ = some (.int .i64 ((rd_T41 l0 x5_1).f2)) ∧ w'.cell? ⟨(ad115.add ((x5_1).toNat * 5)).block, (ad115.add ((x5_1).toNat * 5)).off + 3, none⟩ = some (.int .i64 ((rd_T41 l0 x5_1).f3)) ∧ w'.cell? ⟨(ad115.add ((x5_1).toNat * 5)).block, (ad115.add ((x5_1).toNat * 5)).off + 4, none⟩ = some (.slice A115_4 ((rd_T41 l0 x5_1).f4).length c115_4) ∧ w'.cell? (ad116.add ((x5_1).toNat * 5)) = some (.int .i64 ((rd_T41 l1 x5_1).f0)) ∧ w'.cell? ⟨(ad116.add ((x5_1).toNat * 5)).block, (ad116.add ((x5_1).toNat * 5)).off + 1, none⟩ = some (.int .i64 ((rd_T41 l1 x5_1).f1)) ∧ w'.cell? ⟨(ad116.add ((x5_1).toNat * 5)).block, (ad116.add ((x5_1).toNat * 5)).off + 2, none⟩ = some (.int .i64 ((rd_T41 l1 x5_1).f2)) ∧ w'.cell? ⟨(ad116.add ((x5_1).toNat * 5)).block, (ad116.add ((x5_1).toNat * 5)).off + 3, none⟩ = some (.int .i64 ((rd_T41 l1 x5_1).f3)) ∧ w'.cell? ⟨(ad116.add ((x5_1).toNat * 5)).block, (ad116.add ((x5_1).toNat * 5)).off + 4, none⟩ = some (.slice A116_4 ((rd_T41 l1 x5_1).f4).length c116_4)) (ds := []) #[false, false, false, false, false, false, false, false, false, false] (by kernel_rfl) rfl rfl ⟨((HB.out.cell (World.block_lt_of_cell? w _ hw115_0)).trans hw115_0), ((HB.out.cell (World.block_lt_of_cell? w _ hw115_1)).trans hw115_1), ((HB.out.cell (World.block_lt_of_cell? w _ hw115_2)).trans hw115_2), ((HB.out.cell (World.block_lt_of_cell? w _ hw115_3)).trans hw115_3), ((HB.out.cell (World.block_lt_of_cell? w _ hw115_4)).trans hw115_4), ((HB.out.cell (World.block_lt_of_cell? w _ hw116_0)).trans hw116_0), ((HB.out.cell (World.block_lt_of_cell? w _ hw116_1)).trans hw116_1), ((HB.out.cell (World.block_lt_of_cell? w _ hw116_2)).trans hw116_2), ((HB.out.cell (World.block_lt_of_cell? w _ hw116_3)).trans hw116_3), ((HB.out.cell (World.block_lt_of_cell? w _ hw116_4)).trans hw116_4)⟩ (fun hHeld => ?_); refine with_tabW grapevineref05_Same.tab6 grapevineref05_Same.bits6 (fun HT_ HW_ => ?_)
        generalize wr.drew = w9 at HB HR115_4 HR116_4 hx115_0 hx115_1 hx115_2 hx115_3 hx115_4 hx116_0 hx116_1 hx116_2 hx116_3 hx116_4 hHeld ⊢
        refine pure_ (i := 0) (N := some 18) (v := ?_) (a' := ?_) #[true, false, false, false, false, false, false, false, false, false] rfl rfl (any_of HT_.out (by kernel_rfl)) (fun _ _ _ h => h) (Or.inl ⟨by rfl, ?_⟩) ?_ ?_
        rotate_left
        ·intro w'
         go_simp
         with_reducible rfl
        rotate_left
        ·simp only [Act.put, List.setIfInBounds_toArray, List.set_cons_zero, List.set_cons_succ, i64_w, i32_w]
         rfl
        refine pure_ (i := 1) (N := some 19) (v := ?_) (a' := ?_) #[true, true, false, false, false, false, false, false, false, false] rfl rfl (any_of HT_.out (by kernel_rfl)) (fun _ _ _ h => h) (Or.inl ⟨by rfl, ?_⟩) ?_ ?_
        rotate_left
        ·intro w'
         go_simp
         with_reducible rfl
        rotate_left
        ·simp only [Act.put, List.setIfInBounds_toArray, List.set_cons_zero, List.set_cons_succ, i64_w, i32_w]
         rfl
        refine pure_ (i := 2) (N := some 20) (v := ?_) (a' := ?_) #[true, true, true, false, false, false, false, false, false, false] rfl rfl (any_of HT_.out (by kernel_rfl)) (fun _ _ _ h => h) (Or.inl ⟨by rfl, ?_⟩) ?_ ?_
        rotate_left
        ·intro w'
         go_simp
         with_reducible rfl
        rotate_left
        ·simp only [Act.put, List.setIfInBounds_toArray, List.set_cons_zero, List.set_cons_succ, i64_w, i32_w]
         rfl
        refine pure_ (i := 4) (N := some 22) (v := ?_) (a' := ?_) #[true, true, true, false, true, false, false, false, false, false] rfl rfl (any_of HT_.out (by kernel_rfl)) (fun _ _ _ h => h) (Or.inl ⟨by rfl, ?_⟩) ?_ ?_
        rotate_left
        ·intro w'
         go_simp
         with_reducible rfl
        rotate_left
        ·simp only [Act.put, List.setIfInBounds_toArray, List.set_cons_zero, List.set_cons_succ, i64_w, i32_w]
         rfl
        refine pure_ (i := 5) (N := some 23) (v := ?_) (a' := ?_) #[true, true, true, false, true, true, false, false, false, false] rfl rfl (any_of HT_.out (by kernel_rfl)) (fun _ _ _ h => h) (Or.inl ⟨by rfl, ?_⟩) ?_ ?_
        rotate_left
        ·intro w'
         go_simp
         with_reducible rfl
        rotate_left
        ·simp only [Act.put, List.setIfInBounds_toArray, List.set_cons_zero, List.set_cons_succ, i64_w, i32_w]
         rfl
        refine pure_ (i := 6) (N := some 24) (v := ?_) (a' := ?_) #[true, true, true, false, true, true, true, false, false, false] rfl rfl (any_of HT_.out (by kernel_rfl)) (fun _ _ _ h => h) (Or.inl ⟨by rfl, ?_⟩) ?_ ?_
        rotate_left
        ·intro w'
         go_simp
         with_reducible rfl
        rotate_left
        ·simp only [Act.put, List.setIfInBounds_toArray, List.set_cons_zero, List.set_cons_succ, i64_w, i32_w]
         rfl
        refine take_ (i := 3) (N := some 21) (v := ?_) (a' := ?_) #[true, true, true, true, true, true, true, false, false, false] rfl rfl (take_ofW HT_.out HW_.out (by kernel_rfl)) (fun _ _ _ h => h) (Or.inl ⟨by rfl, ?_⟩) hHeld ?_ ?_
        rotate_left
        ·rintro w' ⟨s0, s1, s2, s3, s4, s5, s6, s7, s8, s9⟩
         go_simp
         with_reducible rfl
        rotate_left
        ·simp only [Act.put, List.setIfInBounds_toArray, List.set_cons_zero, List.set_cons_succ, i64_w, i32_w]
         rfl
        refine take_ (i := 7) (N := some 25) (v := ?_) (a' := ?_) #[true, true, true, true, true, true, true, true, false, false] rfl rfl (take_ofW HT_.out HW_.out (by kernel_rfl)) (fun _ _ _ h => h) (Or.inl ⟨by rfl, ?_⟩) hHeld ?_ ?_
        rotate_left
        ·rintro w' ⟨s0, s1, s2, s3, s4, s5, s6, s7, s8, s9⟩
         go_simp
         with_reducible rfl
        rotate_left
        ·simp only [Act.put, List.setIfInBounds_toArray, List.set_cons_zero, List.set_cons_succ, i64_w, i32_w]
         rfl
        refine one_ (i := 8) (N := some 26) #[true, true, true, true, true, true, true, true, true, false] rfl rfl (one_of HT_.out (by kernel_rfl)) (by decide) (fun K hK => ?_)
        refine goes_ Try.func26 (by kernel_rfl) rfl #[.agg #[.int .i64 ((rd_T41 l0 x5_1).f0), .int .i64 ((rd_T41 l0 x5_1).f1), .int .i64 ((rd_T41 l0 x5_1).f2), .int .i64 ((rd_T41 l0 x5_1).f3), .slice A115_4 ((rd_T41 l0 x5_1).f4).length c115_4], .agg #[.int .i64 ((rd_T41 l1 x5_1).f0), .int .i64 ((rd_T41 l1 x5_1).f1), .int .i64 ((rd_T41 l1 x5_1).f2), .int .i64 ((rd_T41 l1 x5_1).f3), .slice A116_4 ((rd_T41 l1 x5_1).f4).length c116_4]] (by rfl) rfl rfl (by (try simp only [List.map_toArray, List.map_cons, List.map_nil]); first | done | rfl | (simp only [List.length_drop, List.length_take]; rfl)) ?_
        with_reducible refine (grapevineref05_One.calls k1 ((rd_T41 l0 x5_1).f0) ((rd_T41 l0 x5_1).f1) ((rd_T41 l0 x5_1).f2) ((rd_T41 l0 x5_1).f3) _ _ ((rd_T41 l0 x5_1).f4) ((rd_T41 l1 x5_1).f0) ((rd_T41 l1 x5_1).f1) ((rd_T41 l1 x5_1).f2) ((rd_T41 l1 x5_1).f3) _ _ ((rd_T41 l1 x5_1).f4) true _ ?side1 ?side2 ?side3 ?side4 A7.out).mono ?_
        (case side1 => repeat (first | exact (Kd.C_below HR115_4.out HB.out) | (with_reducible refine Kd.C_alloc ?_ _) | (with_reducible refine Kd.C_drewN ?_ _) | (with_reducible refine Kd.C_drew ?_)))
        (case side2 => exact HC115_4.out)
        (case side3 => repeat (first | exact (Kd.C_below HR116_4.out HB.out) | (with_reducible refine Kd.C_alloc ?_ _) | (with_reducible refine Kd.C_drewN ?_ _) | (with_reducible refine Kd.C_drew ?_)))
        (case side4 => exact HC116_4.out)
        rintro e w10 ⟨rfl, hb⟩
        refine ⟨_, rfl, ?_⟩
        have n0_ := Aside0.mk (below_step (by repeat (first | (with_reducible first | exact HB.out | apply below_alloc | apply pw_below_drewN | apply below_drew1) | exact HB.out)) hb)
        clear HB
        have HB := n0_
        clear n0_
        (try clear hb)
        (try clear hb2)
        (try clear hk)
        (try clear hi)
        refine hK.out _ _ ⟨((HB.out.cell (World.block_lt_of_cell? w _ hw115_0)).trans hw115_0), ((HB.out.cell (World.block_lt_of_cell? w _ hw115_1)).trans hw115_1), ((HB.out.cell (World.block_lt_of_cell? w _ hw115_2)).trans hw115_2), ((HB.out.cell (World.block_lt_of_cell? w _ hw115_3)).trans hw115_3), ((HB.out.cell (World.block_lt_of_cell? w _ hw115_4)).trans hw115_4), ((HB.out.cell (World.block_lt_of_cell? w _ hw116_0)).trans hw116_0), ((HB.out.cell (World.block_lt_of_cell? w _ hw116_1)).trans hw116_1), ((HB.out.cell (World.block_lt_of_cell? w _ hw116_2)).trans hw116_2), ((HB.out.cell (World.block_lt_of_cell? w _ hw116_3)).trans hw116_3), ((HB.out.cell (World.block_lt_of_cell? w _ hw116_4)).trans hw116_4)⟩ (fun hHeld => ?_)
        clear hK K
        refine norm_ (a' := ?_) ?_ ?_
        rotate_left
        ·show Act.put _ (some 26) _ = _
         simp only [Act.put, List.setIfInBounds_toArray, List.set_cons_zero, List.set_cons_succ, i64_w, i32_w]
         rfl
        refine pure_ (i := 9) (N := some 6) (v := ?_) (a' := ?_) #[true, true, true, true, true, true, true, true, true, true] rfl rfl (any_of HT_.out (by kernel_rfl)) (fun _ _ _ h => h) (Or.inl ⟨by rfl, ?_⟩) ?_ ?_
        rotate_left
        ·intro w'
         go_simp
         with_reducible rfl
        rotate_left
        ·simp only [Act.put, List.setIfInBounds_toArray, List.set_cons_zero, List.set_cons_succ, i64_w, i32_w]
         rfl
        refine done_ (done_of HT_.out (by kernel_rfl)) ?_
        try go_wp2
        go_roundg k1
        case measure => have := HK1.out; omega
        case rel => exact ⟨(wrap64 (x5_1 + 1)), (by first | rfl | (simp; done) | (simp [*]; done)), H', ⟨by have := HK1.out; omega⟩, ⟨by repeat (first | (with_reducible first | exact HB.out | apply below_alloc | apply pw_below_drewN | apply below_drew1) | exact HB.out)⟩⟩
       ·replace c8 := Bool.eq_false_iff.mpr c8
        subst c8
        have H1 : (some false) = some r := by rw [if_neg (show ¬ (false = true) by decide)] at H; exact H
        clear H
        have H := H1
        clear H1
        obtain rfl := Option.some.inj H
        try go_wp2
        have n0_ := Aside0.mk (below_drew1 HB.out)
        clear HB
        have HB := n0_
        clear n0_
        have p115 : 0 ≤ (x5_1 : Int) := of_decide_eq_true (by first | (with_reducible assumption) | assumption)
        have q115 : x5_1 < (l0.length : Int) := of_decide_eq_true (by first | (with_reducible assumption) | assumption)
        obtain ⟨ad115, A115_4, c115_4, e115, hx115_0, hx115_1, hx115_2, hx115_3, hx115_4, hl115_4, hi115_4⟩ := at_T41 HR0.out x5_1 p115 q115
        have hw115_4 := hx115_4
        have hw115_3 := hx115_3
        have hw115_2 := hx115_2
        have hw115_1 := hx115_1
        have hw115_0 := hx115_0
        cases e115
        replace hx115_0 := (HB.out.cell (World.block_lt_of_cell? w _ hx115_0)).trans hx115_0
        replace hx115_1 := (HB.out.cell (World.block_lt_of_cell? w _ hx115_1)).trans hx115_1
        replace hx115_2 := (HB.out.cell (World.block_lt_of_cell? w _ hx115_2)).trans hx115_2
        replace hx115_3 := (HB.out.cell (World.block_lt_of_cell? w _ hx115_3)).trans hx115_3
        replace hx115_4 := (HB.out.cell (World.block_lt_of_cell? w _ hx115_4)).trans hx115_4
        have HR115_4 := Aside0.mk hi115_4
        have HC115_4 := Aside0.mk hl115_4
        clear hi115_4 hl115_4
        replace p115 := eq_true p115
        replace q115 := eq_true q115
        have p116 : 0 ≤ (x5_1 : Int) := of_decide_eq_true (by first | (with_reducible assumption) | assumption)
        have q116 : x5_1 < (l1.length : Int) := of_decide_eq_true (by first | (with_reducible assumption) | assumption)
        obtain ⟨ad116, A116_4, c116_4, e116, hx116_0, hx116_1, hx116_2, hx116_3, hx116_4, hl116_4, hi116_4⟩ := at_T41 HR1.out x5_1 p116 q116
        have hw116_4 := hx116_4
        have hw116_3 := hx116_3
        have hw116_2 := hx116_2
        have hw116_1 := hx116_1
        have hw116_0 := hx116_0
        cases e116
        replace hx116_0 := (HB.out.cell (World.block_lt_of_cell? w _ hx116_0)).trans hx116_0
        replace hx116_1 := (HB.out.cell (World.block_lt_of_cell? w _ hx116_1)).trans hx116_1
        replace hx116_2 := (HB.out.cell (World.block_lt_of_cell? w _ hx116_2)).trans hx116_2
        replace hx116_3 := (HB.out.cell (World.block_lt_of_cell? w _ hx116_3)).trans hx116_3
        replace hx116_4 := (HB.out.cell (World.block_lt_of_cell? w _ hx116_4)).trans hx116_4
        have HR116_4 := Aside0.mk hi116_4
        have HC116_4 := Aside0.mk hl116_4
        clear hi116_4 hl116_4
        replace p116 := eq_true p116
        replace q116 := eq_true q116
        refine start_ (n := 10) (S := fun w' => w'.cell? (ad115.add ((x5_1).toNat * 5)) = some (.int .i64 ((rd_T41 l0 x5_1).f0)) ∧ w'.cell? ⟨(ad115.add ((x5_1).toNat * 5)).block, (ad115.add ((x5_1).toNat * 5)).off + 1, none⟩ = some (.int .i64 ((rd_T41 l0 x5_1).f1)) ∧ w'.cell? ⟨(ad115.add ((x5_1).toNat * 5)).block, (ad115.add ((x5_1).toNat * 5)).off + 2, none⟩ = some (.int .i64 ((rd_T41 l0 x5_1).f2)) ∧ w'.cell? ⟨(ad115.add ((x5_1).toNat * 5)).block, (ad115.add ((x5_1).toNat * 5)).off + 3, none⟩ = some (.int .i64 ((rd_T41 l0 x5_1).f3)) ∧ w'.cell? ⟨(ad115.add ((x5_1).toNat * 5)).block, (ad115.add ((x5_1).toNat * 5)).off + 4, none⟩ = some (.slice A115_4 ((rd_T41 l0 x5_1).f4).length c115_4) ∧ w'.cell? (ad116.add ((x5_1).toNat * 5)) = some (.int .i64 ((rd_T41 l1 x5_1).f0)) ∧ w'.cell? ⟨(ad116.add ((x5_1).toNat * 5)).block, (ad116.add ((x5_1).toNat * 5)).off + 1, none⟩ = some (.int .i64 ((rd_T41 l1 x5_1).f1)) ∧ w'.cell? ⟨(ad116.add ((x5_1).toNat * 5)).block, (ad116.add ((x5_1).toNat * 5)).off + 2, none⟩ = some (.int .i64 ((rd_T41 l1 x5_1).f2)) ∧ w'.cell? ⟨(ad116.add ((x5_1).toNat * 5)).block, (ad116.add ((x5_1).toNat * 5)).off + 3, none⟩ = some (.int .i64 ((rd_T41 l1 x5_1).f3)) ∧ w'.cell? ⟨(ad116.add ((x5_1).toNat * 5)).block, (ad116.add ((x5_1).toNat * 5)).off + 4, none⟩ = some (.slice A116_4 ((rd_T41 l1 x5_1).f4).length c116_4)) (ds := []) #[false, false, false, false, false, false, false, false, false, false] (by kernel_rfl) rfl rfl ⟨((HB.out.cell (World.block_lt_of_cell? w _ hw115_0)).trans hw115_0), ((HB.out.cell (World.block_lt_of_cell? w _ hw115_1)).trans hw115_1), ((HB.out.cell (World.block_lt_of_cell? w _ hw115_2)).trans hw115_2), ((HB.out.cell (World.block_lt_of_cell? w _ hw115_3)).trans hw115_3), ((HB.out.cell (World.block_lt_of_cell? w _ hw115_4)).trans hw115_4), ((HB.out.cell (World.block_lt_of_cell? w _ hw116_0)).trans hw116_0), ((HB.out.cell (World.block_lt_of_cell? w _ hw116_1)).trans hw116_1), ((HB.out.cell (World.block_lt_of_cell? w _ hw116_2)).trans hw116_2), ((HB.out.cell (World.block_lt_of_cell? w _ hw116_3)).trans hw116_3), ((HB.out.cell (World.block_lt_of_cell? w _ hw116_4)).trans hw116_4)⟩ (fun hHeld => ?_); refine with_tabW grapevineref05_Same.tab6 grapevineref05_Same.bits6 (fun HT_ HW_ => ?_)
        generalize wr.drew = w11 at HB HR115_4 HR116_4 hx115_0 hx115_1 hx115_2 hx115_3 hx115_4 hx116_0 hx116_1 hx116_2 hx116_3 hx116_4 hHeld ⊢
        refine pure_ (i := 0) (N := some 18) (v := ?_) (a' := ?_) #[true, false, false, false, false, false, false, false, false, false] rfl rfl (any_of HT_.out (by kernel_rfl)) (fun _ _ _ h => h) (Or.inl ⟨by rfl, ?_⟩) ?_ ?_
        rotate_left
        ·intro w'
         go_simp
         with_reducible rfl
        rotate_left
        ·simp only [Act.put, List.setIfInBounds_toArray, List.set_cons_zero, List.set_cons_succ, i64_w, i32_w]
         rfl
        refine pure_ (i := 1) (N := some 19) (v := ?_) (a' := ?_) #[true, true, false, false, false, false, false, false, false, false] rfl rfl (any_of HT_.out (by kernel_rfl)) (fun _ _ _ h => h) (Or.inl ⟨by rfl, ?_⟩) ?_ ?_
        rotate_left
        ·intro w'
         go_simp
         with_reducible rfl
        rotate_left
        ·simp only [Act.put, List.setIfInBounds_toArray, List.set_cons_zero, List.set_cons_succ, i64_w, i32_w]
         rfl
        refine pure_ (i := 2) (N := some 20) (v := ?_) (a' := ?_) #[true, true, true, false, false, false, false, false, false, false] rfl rfl (any_of HT_.out (by kernel_rfl)) (fun _ _ _ h => h) (Or.inl ⟨by rfl, ?_⟩) ?_ ?_
        rotate_left
        ·intro w'
         go_simp
         with_reducible rfl
        rotate_left
        ·simp only [Act.put, List.setIfInBounds_toArray, List.set_cons_zero, List.set_cons_succ, i64_w, i32_w]
         rfl
        refine pure_ (i := 4) (N := some 22) (v := ?_) (a' := ?_) #[true, true, true, false, true, false, false, false, false, false] rfl rfl (any_of HT_.out (by kernel_rfl)) (fun _ _ _ h => h) (Or.inl ⟨by rfl, ?_⟩) ?_ ?_
        rotate_left
        ·intro w'
         go_simp
         with_reducible rfl
        rotate_left
        ·simp only [Act.put, List.setIfInBounds_toArray, List.set_cons_zero, List.set_cons_succ, i64_w, i32_w]
         rfl
        refine pure_ (i := 5) (N := some 23) (v := ?_) (a' := ?_) #[true, true, true, false, true, true, false, false, false, false] rfl rfl (any_of HT_.out (by kernel_rfl)) (fun _ _ _ h => h) (Or.inl ⟨by rfl, ?_⟩) ?_ ?_
        rotate_left
        ·intro w'
         go_simp
         with_reducible rfl
        rotate_left
        ·simp only [Act.put, List.setIfInBounds_toArray, List.set_cons_zero, List.set_cons_succ, i64_w, i32_w]
         rfl
        refine pure_ (i := 6) (N := some 24) (v := ?_) (a' := ?_) #[true, true, true, false, true, true, true, false, false, false] rfl rfl (any_of HT_.out (by kernel_rfl)) (fun _ _ _ h => h) (Or.inl ⟨by rfl, ?_⟩) ?_ ?_
        rotate_left
        ·intro w'
         go_simp
         with_reducible rfl
        rotate_left
        ·simp only [Act.put, List.setIfInBounds_toArray, List.set_cons_zero, List.set_cons_succ, i64_w, i32_w]
         rfl
        refine take_ (i := 3) (N := some 21) (v := ?_) (a' := ?_) #[true, true, true, true, true, true, true, false, false, false] rfl rfl (take_ofW HT_.out HW_.out (by kernel_rfl)) (fun _ _ _ h => h) (Or.inl ⟨by rfl, ?_⟩) hHeld ?_ ?_
        rotate_left
        ·rintro w' ⟨s0, s1, s2, s3, s4, s5, s6, s7, s8, s9⟩
         go_simp
         with_reducible rfl
        rotate_left
        ·simp only [Act.put, List.setIfInBounds_toArray, List.set_cons_zero, List.set_cons_succ, i64_w, i32_w]
         rfl
        refine take_ (i := 7) (N := some 25) (v := ?_) (a' := ?_) #[true, true, true, true, true, true, true, true, false, false] rfl rfl (take_ofW HT_.out HW_.out (by kernel_rfl)) (fun _ _ _ h => h) (Or.inl ⟨by rfl, ?_⟩) hHeld ?_ ?_
        rotate_left
        ·rintro w' ⟨s0, s1, s2, s3, s4, s5, s6, s7, s8, s9⟩
         go_simp
         with_reducible rfl
        rotate_left
        ·simp only [Act.put, List.setIfInBounds_toArray, List.set_cons_zero, List.set_cons_succ, i64_w, i32_w]
         rfl
        refine one_ (i := 8) (N := some 26) #[true, true, true, true, true, true, true, true, true, false] rfl rfl (one_of HT_.out (by kernel_rfl)) (by decide) (fun K hK => ?_)
        refine goes_ Try.func26 (by kernel_rfl) rfl #[.agg #[.int .i64 ((rd_T41 l0 x5_1).f0), .int .i64 ((rd_T41 l0 x5_1).f1), .int .i64 ((rd_T41 l0 x5_1).f2), .int .i64 ((rd_T41 l0 x5_1).f3), .slice A115_4 ((rd_T41 l0 x5_1).f4).length c115_4], .agg #[.int .i64 ((rd_T41 l1 x5_1).f0), .int .i64 ((rd_T41 l1 x5_1).f1), .int .i64 ((rd_T41 l1 x5_1).f2), .int .i64 ((rd_T41 l1 x5_1).f3), .slice A116_4 ((rd_T41 l1 x5_1).f4).length c116_4]] (by rfl) rfl rfl (by (try simp only [List.map_toArray, List.map_cons, List.map_nil]); first | done | rfl | (simp only [List.length_drop, List.length_take]; rfl)) ?_
        with_reducible refine (grapevineref05_One.calls k1 ((rd_T41 l0 x5_1).f0) ((rd_T41 l0 x5_1).f1) ((rd_T41 l0 x5_1).f2) ((rd_T41 l0 x5_1).f3) _ _ ((rd_T41 l0 x5_1).f4) ((rd_T41 l1 x5_1).f0) ((rd_T41 l1 x5_1).f1) ((rd_T41 l1 x5_1).f2) ((rd_T41 l1 x5_1).f3) _ _ ((rd_T41 l1 x5_1).f4) false _ ?side1 ?side2 ?side3 ?side4 A7.out).mono ?_
        (case side1 => repeat (first | exact (Kd.C_below HR115_4.out HB.out) | (with_reducible refine Kd.C_alloc ?_ _) | (with_reducible refine Kd.C_drewN ?_ _) | (with_reducible refine Kd.C_drew ?_)))
        (case side2 => exact HC115_4.out)
        (case side3 => repeat (first | exact (Kd.C_below HR116_4.out HB.out) | (with_reducible refine Kd.C_alloc ?_ _) | (with_reducible refine Kd.C_drewN ?_ _) | (with_reducible refine Kd.C_drew ?_)))
        (case side4 => exact HC116_4.out)
        rintro e w12 ⟨rfl, hb⟩
        refine ⟨_, rfl, ?_⟩
        have n0_ := Aside0.mk (below_step (by repeat (first | (with_reducible first | exact HB.out | apply below_alloc | apply pw_below_drewN | apply below_drew1) | exact HB.out)) hb)
        clear HB
        have HB := n0_
        clear n0_
        (try clear hb)
        (try clear hb2)
        (try clear hk)
        (try clear hi)
        refine hK.out _ _ ⟨((HB.out.cell (World.block_lt_of_cell? w _ hw115_0)).trans hw115_0), ((HB.out.cell (World.block_lt_of_cell? w _ hw115_1)).trans hw115_1), ((HB.out.cell (World.block_lt_of_cell? w _ hw115_2)).trans hw115_2), ((HB.out.cell (World.block_lt_of_cell? w _ hw115_3)).trans hw115_3), ((HB.out.cell (World.block_lt_of_cell? w _ hw115_4)).trans hw115_4), ((HB.out.cell (World.block_lt_of_cell? w _ hw116_0)).trans hw116_0), ((HB.out.cell (World.block_lt_of_cell? w _ hw116_1)).trans hw116_1), ((HB.out.cell (World.block_lt_of_cell? w _ hw116_2)).trans hw116_2), ((HB.out.cell (World.block_lt_of_cell? w _ hw116_3)).trans hw116_3), ((HB.out.cell (World.block_lt_of_cell? w _ hw116_4)).trans hw116_4)⟩ (fun hHeld => ?_)
        clear hK K
        refine norm_ (a' := ?_) ?_ ?_
        rotate_left
        ·show Act.put _ (some 26) _ = _
         simp only [Act.put, List.setIfInBounds_toArray, List.set_cons_zero, List.set_cons_succ, i64_w, i32_w]
         rfl
        refine pure_ (i := 9) (N := some 6) (v := ?_) (a' := ?_) #[true, true, true, true, true, true, true, true, true, true] rfl rfl (any_of HT_.out (by kernel_rfl)) (fun _ _ _ h => h) (Or.inl ⟨by rfl, ?_⟩) ?_ ?_
        rotate_left
        ·intro w'
         go_simp
         with_reducible rfl
        rotate_left
        ·simp only [Act.put, List.setIfInBounds_toArray, List.set_cons_zero, List.set_cons_succ, i64_w, i32_w]
         rfl
        refine done_ (done_of HT_.out (by kernel_rfl)) ?_
        try go_wp2
        go_ret
        exact ⟨by first | rfl | (simp [errW_none, errW_some] <;> rfl) | (simp [*, errW_none, errW_some] <;> rfl), by repeat (first | (with_reducible first | exact HB.out | apply below_alloc | apply pw_below_drewN | apply below_drew1) | exact HB.out)⟩
      ·rw [if_neg c6] at H
       exact absurd H (by simp)
     ·rw [if_neg c5] at H
      exact absurd H (by simp)
    ·rw [if_neg c4] at H
     have c4b0 : decide (x5_1 < (l0.length : Int)) = false := decide_eq_false c4
     clear c4
     obtain rfl := Option.some.inj H
     go_wp2
     go_ret
     exact ⟨by first | rfl | (simp [errW_none, errW_some] <;> rfl) | (simp [*, errW_none, errW_some] <;> rfl), by repeat (first | (with_reducible first | exact HB.out | apply below_alloc | apply pw_below_drewN | apply below_drew1) | exact HB.out)⟩
 ·rw [if_neg c3] at H
  have c3b0 : ((l0.length : Int) == (l1.length : Int)) = false := beq_eq_false_iff_ne.mpr c3
  have c3b1 : ((l0.length : Int) != (l1.length : Int)) = true := bne_iff_ne.mpr c3
  have c3b2 : (l0.length == l1.length) = false := by first | simpa using c3 | (simp at c3 ⊢; omega)
  obtain rfl := Option.some.inj H
  go_enter Try.func17, Try.ntmps17
  go_wp2
  go_ret
  exact ⟨by first | rfl | (simp [errW_none, errW_some] <;> rfl) | (simp [*, errW_none, errW_some] <;> rfl), by repeat (first | (with_reducible first | exact HB.out | apply below_alloc | apply pw_below_drewN | apply below_drew1) | exact HB.out)⟩

end Go.Proofs.Ytoaijganmfijmaa.Pr
-- shrunk
/-
The document's Same of hunks: a list is the same as itself; what is read of a list of hunks.
-/
namespace Go.Proofs.Ytoaijganmfijmaa.Pr
open Go.RowKit Go.Proofs.YtoaijganmfijmaaW.PrintWords Go.Proofs.YtoaijganmfijmaaW.PrintLast Go.Proofs.YtoaijganmfijmaaW.PrintMore
set_option linter.unusedVariables false
set_option linter.unusedSimpArgs false
theorem OneS_ev (h : Hk) (hl : h.f4.length ≤ 4611686018427387904) : Ev (fun k => grapevineref05_One.f k h.f0 h.f1 h.f2 h.f3 h.f4 h.f0 h.f1 h.f2 h.f3 h.f4) true := by
 unfold grapevineref05_One.f
 simp only [if_true]
 have h2 := Texts_ev h.f4 h.f4 hl
 rw [decide_eq_true rfl] at h2
 refine Ev.bind h2 ?_
 exact Ev.now _
theorem rdH_at {xs : List Hk} {i : Nat} (h : i < xs.length) : rd_T41 xs (i : Int) = xs[i] := by
 rw [rd_T41, Int.toNat_natCast, List.getD_eq_getElem?_getD, List.getElem?_eq_getElem h, Option.getD_some]
theorem SameH_l0 (a : List Hk) (hn : a.length ≤ 4611686018427387904) (hl : ∀ h ∈ a, h.f4.length ≤ 4611686018427387904) : ∀ d i, a.length - i = d → i ≤ a.length → Ev (fun k => grapevineref05_Same.l0 k a a (i : Int)) true := by
 intro d
 induction d with
 | zero =>
  intro i hd hi
  refine Ev.step (fun _ => grapevineref05_Same.l0.eq_2 ..) ?_
  simp only [if_neg (show ¬ (i : Int) < (a.length : Int) by omega)]
  exact Ev.now _
 | succ d ih =>
  intro i hd hi
  refine Ev.step (fun _ => grapevineref05_Same.l0.eq_2 ..) ?_
  have h0 : i < a.length := by omega
  simp only [if_pos (show (i : Int) < (a.length : Int) by omega), if_pos (show 0 ≤ (i : Int) by omega), rdH_at h0, w_succ h0 hn]
  refine Ev.bind (OneS_ev _ (hl _ (List.getElem_mem h0))) ?_
  simp only [if_true]
  exact ih (i + 1) (by omega) (by omega)
theorem SameH_ev (a : List Hk) (hn : a.length ≤ 4611686018427387904) (hl : ∀ h ∈ a, h.f4.length ≤ 4611686018427387904) : Ev (fun k => grapevineref05_Same.f k a a) true := by
 unfold grapevineref05_Same.f
 simp only [if_true]
 exact SameH_l0 a hn hl _ 0 rfl (by omega)
end Go.Proofs.Ytoaijganmfijmaa.Pr
-- shrunk
