/-
The law HunkRight answers true: the plain part.
-/
import Derived.Test.YtlabiajcohmjhaaGM5
import Derived.Test.YtlabiajcohmjhaaGM6
import Derived.Test.YtlabiajcohmjhaaGSpecA
import Derived.Test.YtlabiajcohmjhaaGRightW
namespace Go.Proofs.Ytlabiajcohmjhaa.Pr
open Go.RowKit Go.Proofs.YtlabiajcohmjhaaW.PrintWords Go.Proofs.YtlabiajcohmjhaaW.PrintLast Go.Proofs.YtlabiajcohmjhaaW.PrintMore
set_option linter.unusedVariables false
set_option linter.unusedSimpArgs false
theorem edB_f2 : ∀ (bs : List Blk) (at_ : Int), ∀ e ∈ edB at_ bs, e.f2.length ≤ newN bs
 | [], at_, e, he => by simp [edB] at he
 | b :: bs, at_, e, he => by
  simp only [edB, List.mem_cons] at he
  rcases he with rfl | he
  ·show b.i.length ≤ _; simp only [newN]; omega
  ·have := edB_f2 bs _ e he; simp only [newN]; omega
theorem HunkRight_pure (a0 a1 a2 a3 : Int) (l : List ByteArray) (hl : l.length * 16 ≤ 140737488351232) (hs : ∀ s ∈ l, s.size ≤ 140737488351232) : ∃ k, grapevinelaw05_HunkRight.f k a0 a1 a2 a3 l = some true := by
 refine Ev.rounds ?_
 unfold grapevinelaw05_HunkRight.f
 refine Ev.bind (Few1_ev a0 a1 a2 a3 l) ?_
 by_cases hsm : small1 a0 a1 a2 a3 l = true
 ·simp only [if_pos hsm]
  have hq := of_decide_eq_true hsm
  refine Ev.bind (RRight_ev a0 a1 a2 a3 l (by omega)) ?_
  have h2 := HRight_ev a0 a1 a2 a3 l (by omega)
  rw [right_same] at h2
  refine Ev.bind h2 ?_
  simp only [if_true]
  by_cases hr : rightL a0 a1 a2 a3 l = true
  ·simp only [if_pos hr]
   have hr0 := hr
   rw [← right_same] at hr0
   have hr' := of_decide_eq_true hr0
   have hcn : cntL false 0 0 l = (a1, a3, true) := by
    rw [← hr'.2.2.2.1, ← hr'.2.2.2.2, ← hr'.1]
   obtain ⟨bs, t, hB, rfl⟩ := right_blocks l a1 a3 hcn
   have hle := blkLines_len_eq bs t
   have hbl := blks_le true bs t hB
   have hbig := blk_big_of 140737488351232 (by omega) bs t hs
   have hlm := blkLines_len (bs.map swapB) t
   rw [oldN_swap, newN_swap] at hlm
   refine Ev.bind (HTurn_ev a0 a1 a2 a3 bs t hB hbig (by omega)) ?_
   refine Ev.bind (RTurnH_ev a0 a1 a2 a3 bs t hB (fun s hm => by have := hs s hm; omega) (by omega)) ?_
   refine Ev.bind (One_ev a2 a3 a0 a1 (blkLines (bs.map swapB) t) (by omega)) ?_
   simp only [if_true]
   refine Ev.bind (Edits_ev a0 a1 a2 a3 bs t hB hr'.2.1 (by omega) (by omega) (by omega)) ?_
   refine Ev.bind (REditsH_ev a0 a1 a2 a3 bs t hB (by omega) (by omega) (by omega)) ?_
   have hok : Ok40 (edB a0 bs) := ⟨by rw [edB_len]; omega, fun e he => by have := edB_f2 bs a0 e he; omega⟩
   rw [Same_ev _ _ hok, decide_eq_true rfl]
   exact Ev.now _
  ·simp only [if_neg hr]; exact Ev.now _
 ·simp only [if_neg hsm]; exact Ev.now _
end Go.Proofs.Ytlabiajcohmjhaa.Pr
-- shrunk
