/-
The law HunkTells answers true: the plain part.
-/
import Derived.Test.YtlabiajcohmjhaaGLawH0
import Derived.Test.YtlabiajcohmjhaaD12a
namespace Go.Proofs.Ytlabiajcohmjhaa.Pr
open Go.RowKit Go.Proofs.YtlabiajcohmjhaaW.PrintWords Go.Proofs.YtlabiajcohmjhaaW.PrintLast Go.Proofs.YtlabiajcohmjhaaW.PrintMore
set_option linter.unusedVariables false
set_option linter.unusedSimpArgs false
theorem HTells_l0 (a : List ByteArray) (a2 : Int) (l : List Ed) (hs : List Hk) (hl : Ok40 l) (ha : a.length ≤ 274877906944) (hh : hs.length ≤ 274877906944) :
  ∀ (d i : Nat) (en : Int) (f : Bool) (acc r tr : List Ed), hs.length - i = d → i ≤ hs.length → (f = true → i = 0) → Chain a.length en f (hs.drop i) r tr → acc ++ r = l →
  Ev (fun k => grapevinelaw05_HunkTells.l0 k a a2 true l hs acc en (i : Int)) true := by
 intro d
 induction d with
 | zero =>
  intro i en f acc r tr hd hi hf hc ha2
  refine Ev.step (fun _ => grapevinelaw05_HunkTells.l0.eq_2 ..) ?_
  rw [List.drop_of_length_le (by omega)] at hc
  obtain ⟨rfl, _, hen⟩ := hc
  rw [List.append_nil] at ha2
  subst ha2
  simp only [if_neg (show ¬ (i : Int) < (hs.length : Int) by omega), if_true, if_pos hen, Same_ev _ _ hl, decide_true, Option.bind_some]
  exact Ev.now _
 | succ d ih =>
  intro i en f acc r tr hd hi hf hc ha2
  refine Ev.step (fun _ => grapevinelaw05_HunkTells.l0.eq_2 ..) ?_
  have h0 : i < hs.length := by omega
  rw [List.drop_eq_getElem_cons h0] at hc
  obtain ⟨g, r', tg, tr', rfl, rfl, hF, h1, h2, hc'⟩ := hc
  have hlen := congrArg List.length ha2
  simp only [List.length_append] at hlen
  have hb := hF.big
  have hl1 := hl.1
  simp only [if_pos (show (i : Int) < (hs.length : Int) by omega), if_pos (show 0 ≤ (i : Int) by omega), rdH_at h0, w_succ h0 (show hs.length ≤ 4611686018427387904 by omega)]
  refine Ev.bind hF.right ?_
  rw [w_in (x := hs[i].f0 + hs[i].f1) (by omega) (by omega)]
  simp only [if_true, if_neg (show ¬ hs[i].f0 < en by omega)]
  have hE : Ev (fun k => (hunk_Edits.f k hs[i].f0 hs[i].f1 hs[i].f2 hs[i].f3 hs[i].f4).bind fun t => (if acc.length + t.length < 3518437208883 then (grapevinelaw05_HunkTells.l0 k a a2 true l hs (acc ++ t) (hs[i].f0 + hs[i].f1) ((i + 1 : Nat) : Int)) else (none))) true := by
   refine Ev.bind hF.edits ?_
   simp only [if_pos (show acc.length + g.length < 3518437208883 by omega)]
   exact ih (i + 1) _ false (acc ++ g) r' tr' (by omega) (by omega) (by simp) hc' (by rw [List.append_assoc]; exact ha2)
  by_cases hi0 : (i : Int) > 0
  ·have hff : f = false := by cases f with
    | false => rfl
    | true => exact absurd (hf rfl) (by omega)
   have := h2 hff
   simp only [if_pos hi0, if_neg (show ¬ hs[i].f0 = en by omega)]
   exact hE
  ·simp only [if_neg hi0]
   exact hE
theorem HunkTells_pure (a b : List ByteArray) (a2 : Int) (ya : a.length * 16 ≤ 140737488351232) (za : ∀ s ∈ a, s.size ≤ 140737488351232) (yb : b.length * 16 ≤ 140737488351232) (zb : ∀ s ∈ b, s.size ≤ 140737488351232) (w2 : (Lit.int .u16 a2).wf = true) :
  ∃ k, grapevinelaw05_HunkTells.f k a b a2 = some true := by
 have hw := u16_nn w2
 refine Ev.rounds ?_
 unfold grapevinelaw05_HunkTells.f
 have j0t : Ev (fun k => grapevinelaw05_HunkTells.j0 k a b a2 true true) true := by
  refine Ev.step (fun _ => grapevinelaw05_HunkTells.j0.eq_2 ..) ?_
  exact Ev.now _
 refine Ev.bind awake_f ?_
 by_cases c1 : (a.length : Int) > 40
 ·simp only [if_pos c1]
  exact j0t
 simp only [if_neg c1]
 by_cases c2 : (b.length : Int) > 40
 ·rw [decide_eq_true c2]
  exact j0t
 rw [decide_eq_false c2]
 refine Ev.step (fun _ => grapevinelaw05_HunkTells.j0.eq_2 ..) ?_
 simp only [Bool.false_eq_true, if_false]
 have B := law_between a b (by omega) (by omega) zb
 have hm := mod_in (n := 1001) hw (by omega) (by omega)
 have bl := B.len
 have bi := B.ins
 refine Ev.bind (Ev.none_of fun _ => Diff_some a b (by omega) (by omega)) ?_
 rw [hm.1]
 refine Ev.bind (Make_ev a _ _ (by omega) (by omega) (fun s hs => by have := za s hs; omega) B.str hm.2.1 (by omega) B.ok (by omega)) ?_
 simp only [if_true]
 have hlen := makeH_most a (a2 % 1001) (between a b)
 exact HTells_l0 a a2 _ _ B.o40 (by omega) (by omega) _ 0 0 true [] _ _ rfl (by omega) (fun _ => rfl)
  (makeH_chain a (a2 % 1001) (by omega) (fun s hs => by have := za s hs; omega) hm.2.1 (by omega) _ _ 0 0 0 0 true (Nat.le_refl _) (by omega) B.str (by omega) B.ok (by omega) (by omega) (by omega) (by omega) (fun p r h => ⟨by omega, by omega, by simp⟩)) rfl
end Go.Proofs.Ytlabiajcohmjhaa.Pr
