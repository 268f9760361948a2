/-
The law HunkMakes answers true: the plain part.
-/
import Derived.Test.YtlabiajcohmjhaaGRefMake
import Derived.Test.YtlabiajcohmjhaaGSpecA
import Derived.Test.YtlabiajcohmjhaaD8a
import Derived.Test.YtlabiajcohmjhaaD8b
namespace Go.Proofs.Ytlabiajcohmjhaa.Pr
open Go.RowKit Go.Proofs.YtlabiajcohmjhaaW.PrintWords Go.Proofs.YtlabiajcohmjhaaW.PrintLast Go.Proofs.YtlabiajcohmjhaaW.PrintMore
set_option linter.unusedVariables false
set_option linter.unusedSimpArgs false
theorem OneS_ev (h : Hk) (hl : h.f4.length ≤ 4611686018427387904) : Ev (fun k => grapevineref05_One.f k h.f0 h.f1 h.f2 h.f3 h.f4 h.f0 h.f1 h.f2 h.f3 h.f4) true := by
 unfold grapevineref05_One.f
 simp only [if_true]
 have h2 := Texts_ev h.f4 h.f4 hl
 rw [decide_eq_true rfl] at h2
 refine Ev.bind h2 ?_
 exact Ev.now _
theorem rdH_at {xs : List Hk} {i : Nat} (h : i < xs.length) : rd_T33 xs (i : Int) = xs[i] := by
 rw [rd_T33, Int.toNat_natCast, List.getD_eq_getElem?_getD, List.getElem?_eq_getElem h, Option.getD_some]
theorem SameH_l0 (a : List Hk) (hn : a.length ≤ 4611686018427387904) (hl : ∀ h ∈ a, h.f4.length ≤ 4611686018427387904) : ∀ d i, a.length - i = d → i ≤ a.length → Ev (fun k => grapevineref05_Same.l0 k a a (i : Int)) true := by
 intro d
 induction d with
 | zero =>
  intro i hd hi
  refine Ev.step (fun _ => grapevineref05_Same.l0.eq_2 ..) ?_
  simp only [if_neg (show ¬ (i : Int) < (a.length : Int) by omega)]
  exact Ev.now _
 | succ d ih =>
  intro i hd hi
  refine Ev.step (fun _ => grapevineref05_Same.l0.eq_2 ..) ?_
  have h0 : i < a.length := by omega
  simp only [if_pos (show (i : Int) < (a.length : Int) by omega), if_pos (show 0 ≤ (i : Int) by omega), rdH_at h0, w_succ h0 hn]
  refine Ev.bind (OneS_ev _ (hl _ (List.getElem_mem h0))) ?_
  simp only [if_true]
  exact ih (i + 1) (by omega) (by omega)
theorem SameH_ev (a : List Hk) (hn : a.length ≤ 4611686018427387904) (hl : ∀ h ∈ a, h.f4.length ≤ 4611686018427387904) : Ev (fun k => grapevineref05_Same.f k a a) true := by
 unfold grapevineref05_Same.f
 simp only [if_true]
 exact SameH_l0 a hn hl _ 0 rfl (by omega)
theorem makeH_sizes (a : List ByteArray) (ar : Int) (har : 0 ≤ ar) : ∀ (N : Nat) (l : List Ed) (more fr : Int), l.length ≤ N → 0 ≤ fr → okFrom fr a.length l = true → (makeH a ar more l).length ≤ l.length ∧ ∀ h ∈ makeH a ar more l, h.f4.length ≤ 3 * a.length + insE l := by
 intro N
 induction N with
 | zero =>
  intro l more fr hN hf ho
  have hl : l = [] := List.eq_nil_of_length_eq_zero (by omega)
  subst hl
  rw [makeH]; simp
 | succ N ih =>
  intro l more fr hN hf ho
  cases l with
  | nil => rw [makeH]; simp
  | cons p l =>
   have hga := grp_app ar l p
   have hgl := grp_len ar l p
   have ho2 := ho
   rw [← hga] at ho2
   have hsp := okFrom_split _ _ _ _ ho2
   have hla := okFrom_last _ _ _ hsp.1
   obtain ⟨c1, c2, c3, c4, c5, ho'⟩ := okFrom_cons hsp.1
   have ho0 : okFrom p.f0 a.length (p :: (grp ar p l).1) = true := by
    simp only [okFrom, Bool.and_eq_true, decide_eq_true_eq]
    exact ⟨⟨Int.le_refl _, c2, c3, c4, c5⟩, ho'⟩
   have hft : (fromH p ar : Int) ≤ p.f0 := by unfold fromH; omega
   have hco := blks_counts a (grp ar p l).1 p p.f0 (fromH p ar) hft ho0
   have htl := tail_len a ar p (grp ar p l).1 fr har hf hsp.1
   have hin : insE l = insE (grp ar p l).1 + insE (grp ar p l).2 := by rw [← insE_app, hga]
   have hdi : diffE (p :: (grp ar p l).1) ≤ insE (p :: (grp ar p l).1) := by
    have h := diffE_bd (p :: (grp ar p l).1) p.f0 (p :: (grp ar p l).1).length (by omega) ho0
    rw [List.take_length] at h
    exact h.2
   simp only [insE] at hdi ⊢
   have h1 := ih (grp ar p l).2 (more + diffE (p :: (grp ar p l).1)) (endE p (grp ar p l).1 + 1) (by simp only [List.length_cons] at hN; omega) (by omega) hsp.2
   rw [makeH]
   refine ⟨by simp only [List.length_cons]; omega, fun h hm => ?_⟩
   rcases List.mem_cons.1 hm with rfl | hm
   ·show (linesH a ar p (grp ar p l).1).length ≤ _
    have h := blkLines_len (blks a (fromH p ar) (p :: (grp ar p l).1)) ((a.take (toH a p (grp ar p l).1 ar)).drop (endE p (grp ar p l).1).toNat)
    unfold linesH
    omega
   ·have := h1.2 h hm
    omega
theorem Make_bad (a : List ByteArray) (l : List Ed) (ar : Int) (ha : a.length ≤ 274877906944) (hl : l.length ≤ 274877906944) (hb : ¬ (okFrom 0 a.length l = true ∧ 0 ≤ ar ∧ ar ≤ 1000)) : Ev (fun k => hunk_Make.f k a l ar) ([], 1) := by
 unfold hunk_Make.f
 have jt : Ev (fun k => hunk_Make.j0 k a l ar true) ([], 1) := by
  refine Ev.step (fun _ => hunk_Make.j0.eq_2 ..) ?_
  exact Ev.now _
 refine Ev.bind (Right_ev (a.length : Int) l (by omega) (by omega) (by omega)) ?_
 cases hr : okFrom 0 (a.length : Int) l with
 | false =>
  simp only [Bool.false_eq_true, if_false]
  exact jt
 | true =>
  simp only [if_true]
  by_cases h1 : ar < 0
  ·simp only [if_pos h1]; exact jt
  ·simp only [if_neg h1]
   rw [decide_eq_true (show ar > 1000 from by
    rcases Int.lt_or_le 1000 ar with h | h
    ·exact h
    ·exact absurd ⟨hr, by omega, h⟩ hb)]
   exact jt
theorem HunkMakes_pure (a : List ByteArray) (l : List Ed) (ar : Int) (ha : a.length * 16 ≤ 140737488351232) (hsa : ∀ s ∈ a, s.size ≤ 140737488351232) (hl : l.length * 40 ≤ 140737488351232) (hs : ∀ e ∈ l, ∀ s ∈ e.f2, s.size ≤ 140737488351232) (hw : (Lit.int .i64 ar).wf = true) :
  ∃ k, grapevinelaw05_HunkMakes.f k a l ar = some true := by
 refine Ev.rounds ?_
 unfold grapevinelaw05_HunkMakes.f
 have j0t : Ev (fun k => grapevinelaw05_HunkMakes.j0 k a l ar true true) true := by
  refine Ev.step (fun _ => grapevinelaw05_HunkMakes.j0.eq_2 ..) ?_
  exact Ev.now _
 refine Ev.bind (Ev.none_of fun _ => rfl) ?_
 refine Ev.bind (Few_ev l (by omega)) ?_
 by_cases hsm : (∀ e ∈ l, e.f0 ≤ 1048576 ∧ e.f1 ≤ 1048576 ∧ e.f2.length ≤ 20) ∧ l.length ≤ 20
 ·rw [decide_eq_true hsm]
  simp only [if_true]
  by_cases c2 : (a.length : Int) > 24
  ·rw [decide_eq_true c2]
   exact j0t
  rw [decide_eq_false c2]
  have hin : insE l ≤ 400 := by
   have key : ∀ (m : List Ed), (∀ e ∈ m, e.f2.length ≤ 20) → insE m ≤ m.length * 20 := by
    intro m
    induction m with
    | nil => intro _; simp [insE]
    | cons e m ih =>
     intro h
     have h1 := ih (fun e he => h e (List.mem_cons_of_mem _ he))
     have h2 := h e List.mem_cons_self
     simp only [insE, List.length_cons]
     omega
   have h1 := key l (fun e he => (hsm.1 e he).2.2)
   have h2 := hsm.2
   omega
  have hS : SmallM a l := ⟨by omega, by omega, by omega, fun s h => by have := hsa s h; omega, fun e he s h => by have := hs e he s h; omega⟩
  refine Ev.step (fun _ => grapevinelaw05_HunkMakes.j0.eq_2 ..) ?_
  simp only [Bool.false_eq_true, if_false, if_true]
  by_cases hg : okFrom 0 a.length l = true ∧ 0 ≤ ar ∧ ar ≤ 1000
  ·obtain ⟨ho, h0, h1⟩ := hg
   have hz := makeH_sizes a ar h0 l.length l 0 0 (Nat.le_refl _) (Int.le_refl _) ho
   refine Ev.bind (Make_ev a l ar (by omega) (by omega) (fun s h => by have := hsa s h; omega) (fun e he s h => by have := hs e he s h; omega) h0 h1 ho (by omega)) ?_
   refine Ev.bind (a := (makeH a ar 0 l, 0)) (Ev.none_of fun _ => by rw [grapevineref05_Make.f, if_pos hS, if_pos ⟨ho, h0, h1⟩, makeR_eq a ar h0 l ho]) ?_
   simp only [if_true]
   refine Ev.bind (SameH_ev _ (by omega) (fun h hm => by have := hz.2 h hm; omega)) ?_
   exact Ev.now _
  ·refine Ev.bind (Make_bad a l ar (by omega) (by omega) hg) ?_
   refine Ev.bind (a := ([], 1)) (Ev.none_of fun _ => by rw [grapevineref05_Make.f, if_pos hS, if_neg hg]) ?_
   simp only [if_true]
   refine Ev.bind (SameH_ev [] (by simp) (by simp)) ?_
   exact Ev.now _
 ·rw [decide_eq_false hsm]
  simp only [Bool.false_eq_true, if_false]
  exact j0t
end Go.Proofs.Ytlabiajcohmjhaa.Pr
-- shrunk
