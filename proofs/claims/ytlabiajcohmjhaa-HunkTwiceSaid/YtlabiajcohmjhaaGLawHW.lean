/-
The law HunkTwice answers true: the plain part.
-/
import Derived.Test.YtlabiajcohmjhaaGM5
import Derived.Test.YtlabiajcohmjhaaGTwice
namespace Go.Proofs.Ytlabiajcohmjhaa.Pr
open Go.RowKit Go.Proofs.YtlabiajcohmjhaaW.PrintWords Go.Proofs.YtlabiajcohmjhaaW.PrintLast Go.Proofs.YtlabiajcohmjhaaW.PrintMore
set_option linter.unusedVariables false
set_option linter.unusedSimpArgs false
theorem HunkTwice_pure (a0 a1 a2 a3 : Int) (l : List ByteArray) (hl : l.length * 16 ≤ 140737488351232) (hs : ∀ s ∈ l, s.size ≤ 140737488351232) : ∃ k, grapevinelaw05_HunkTwice.f k a0 a1 a2 a3 l = some true := by
 refine Ev.rounds ?_
 unfold grapevinelaw05_HunkTwice.f
 refine Ev.bind (Few1_ev a0 a1 a2 a3 l) ?_
 by_cases hsm : small1 a0 a1 a2 a3 l = true
 ·simp only [if_pos hsm]
  have hq := of_decide_eq_true hsm
  refine Ev.bind (HRight_ev a0 a1 a2 a3 l (by omega)) ?_
  by_cases hr : decide ((cntL false 0 0 l).2.2 = true ∧ 0 ≤ a0 ∧ 0 ≤ a2 ∧ (cntL false 0 0 l).1 = a1 ∧ (cntL false 0 0 l).2.1 = a3) = true
  ·simp only [if_pos hr]
   have hr' := of_decide_eq_true hr
   have hcn : cntL false 0 0 l = (a1, a3, true) := by
    rw [← hr'.2.2.2.1, ← hr'.2.2.2.2, ← hr'.1]
   obtain ⟨bs, t, hB, rfl⟩ := right_blocks l a1 a3 hcn
   have hc2 := cntL_blk bs t true false 0 0 hB (fun _ => rfl)
   rw [hcn] at hc2
   have e1 : a1 = 0 + (oldN bs : Int) + (t.length : Int) := congrArg (fun z => z.1) hc2
   have e3 : a3 = 0 + (newN bs : Int) + (t.length : Int) := congrArg (fun z => z.2.1) hc2
   have hle := blkLines_len_eq bs t
   have hbl := blks_le true bs t hB
   have hbig := blk_big_of 140737488351232 (by omega) bs t hs
   have hB2 := BOk_swap true bs hB
   have hle2 := blkLines_len_eq (bs.map swapB) t
   have hlm := blkLines_len (bs.map swapB) t
   rw [oldN_swap, newN_swap] at hlm
   have hbig2 : blkBig (bs.map swapB) := by
    have h : ∀ bs : List Blk, blkBig bs → blkBig (bs.map swapB) := by
     intro bs
     induction bs with
     | nil => exact fun _ => trivial
     | cons b bs ih => exact fun h => ⟨fun s hs => h.1 s (by rcases List.mem_append.1 hs with h | h <;> simp [swapB] at h <;> simp [h]), ih h.2⟩
    exact h bs hbig
   refine Ev.bind (HTurn_ev a0 a1 a2 a3 bs t hB hbig (by omega)) ?_
   refine Ev.bind (HRight_ev a2 a3 a0 a1 (blkLines (bs.map swapB) t) (by omega)) ?_
   have hc3 := cntL_blk (bs.map swapB) t true false 0 0 hB2 (fun _ => rfl)
   rw [oldN_swap, newN_swap] at hc3
   rw [hc3, decide_eq_true (show _ ∧ _ ∧ _ ∧ _ from ⟨rfl, hr'.2.2.1, hr'.2.1, e3.symm, e1.symm⟩)]
   simp only [if_true]
   have ht := HTurn_ev a2 a3 a0 a1 (bs.map swapB) t hB2 hbig2 (by rw [oldN_swap, newN_swap]; omega)
   rw [swapB_swapB] at ht
   refine Ev.bind ht ?_
   refine Ev.bind (One_ev a0 a1 a2 a3 (blkLines bs t) (by omega)) ?_
   simp only [if_true]
   refine Ev.bind (Edits_ev a2 a3 a0 a1 (bs.map swapB) t hB2 hr'.2.2.1 (by rw [oldN_swap]; omega) (by rw [oldN_swap, newN_swap]; omega) (by rw [List.length_map]; omega)) ?_
   refine Ev.bind (Edits_ev a0 a1 a2 a3 bs t hB hr'.2.1 (by omega) (by omega) (by omega)) ?_
   rw [decide_eq_true (by rw [edB_len, edB_len, List.length_map])]
   exact Ev.now _
  ·simp only [if_neg hr]; exact Ev.now _
 ·simp only [if_neg hsm]; exact Ev.now _
end Go.Proofs.Ytlabiajcohmjhaa.Pr
-- shrunk
