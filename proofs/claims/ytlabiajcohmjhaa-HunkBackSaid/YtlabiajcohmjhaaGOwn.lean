/-
A list of edits of the call's own, of which the last one is changed: what is known of memory then.
-/
import Derived.Test.YtlabiajcohmjhaaGPure
namespace Go.Proofs.Ytlabiajcohmjhaa.Pr
open Go.RowKit Go.Proofs.YtlabiajcohmjhaaW.PrintWords Go.Proofs.YtlabiajcohmjhaaW.PrintLast Go.Proofs.YtlabiajcohmjhaaW.PrintMore
set_option linter.unusedVariables false
set_option linter.unusedSimpArgs false
theorem edLast_eq (out : List Ed) (j : Int) (hj : j.toNat = out.length - 1) : out.getD j.toNat z51 = edLast out := by rw [hj]; rfl
theorem own_del {W : World} {base g cap : Nat} {out : List Ed} {j : Int} (hS : Kd.S k51 51 W base (fun _ => True) (.slice (some ⟨g, 0, none⟩) out.length cap) out) (hne : out ≠ []) (h0 : 0 ≤ j) (hj : j.toNat = out.length - 1) :
  W.cell? ⟨g, j.toNat * 3 + 1, none⟩ = some (.int .i64 (edLast out).f1) ∧ W.frozen? ⟨g, j.toNat * 3 + 1, none⟩ = false ∧
   Kd.S k51 51 (W.setCell ⟨g, j.toNat * 3 + 1, none⟩ (.int .i64 ((edLast out).f1 + 1))) base (fun _ => True) (.slice (some ⟨g, 0, none⟩) out.length cap) (addDel out) ∧
   W.grownBy (W.setCell ⟨g, j.toNat * 3 + 1, none⟩ (.int .i64 ((edLast out).f1 + 1))) (some g) := by
 have hl : 0 < out.length := List.length_pos_iff.2 hne
 have h1 : j < (out.length : Int) := by omega
 have hS' : Kd.S k51 51 W base (fun k => True ∧ ¬ False) (.slice (some ⟨g, 0, none⟩) out.length cap) out := Kd.S_mono hS (fun _ _ => ⟨trivial, id⟩)
 obtain ⟨oki, c, hcl, hM, hcc, hfr, hoki, hH⟩ := Kd.S_elem hS' z51 j h0 h1
 rw [edLast_eq out j hj] at hM
 obtain ⟨vi, rfl, hvi⟩ := k51_openM hM
 have hc1 := hcc 1 _ rfl
 obtain ⟨h2, h3⟩ := Kd.S_seg (okg := fun _ => False) hH h0 h1 (seg := [.int .i64 ((edLast out).f1 + 1)]) (j := 1) (show 1 + 1 ≤ 3 by decide) (x' := ⟨(edLast out).f0, (edLast out).f1 + 1, (edLast out).f2⟩)
  (k51_mkM W base oki ⟨(edLast out).f0, (edLast out).f1 + 1, (edLast out).f2⟩ hvi) (fun k hk => .inl hk) (fun k hk => hk.elim)
 exact ⟨hc1, hfr 1, by unfold addDel; rw [← hj]; exact Kd.S_mono h2 (fun _ _ => trivial), h3⟩
theorem own_ins {W : World} {base g cap : Nat} {out : List Ed} {j : Int} (s : ByteArray) (hS : Kd.S k51 51 W base (fun _ => True) (.slice (some ⟨g, 0, none⟩) out.length cap) out) (hne : out ≠ []) (h0 : 0 ≤ j) (hj : j.toNat = out.length - 1) :
  ∃ (vi : Value) (Ai : Option Addr) (ci : Nat) (oki : Nat → Prop), vi = .slice Ai (edLast out).f2.length ci ∧ W.cell? ⟨g, j.toNat * 3 + 2, none⟩ = some vi ∧ Kd.R Kd.string 9 W base oki vi (edLast out).f2 ∧ (∀ k, W.heap.size ≤ k → oki k) ∧ (∀ k, vi.ownBlock = some k → k ≠ g) ∧
   ∀ (W2 w1 : World) (v1 : Value), Below W.heap.size W W2 → W2.grownBy w1 vi.ownBlock → Kd.R Kd.string 9 w1 base oki v1 ((edLast out).f2 ++ [s]) →
    w1.cell? ⟨g, j.toNat * 3 + 2, none⟩ = some vi ∧ w1.frozen? ⟨g, j.toNat * 3 + 2, none⟩ = false ∧
    Kd.S k51 51 (w1.setCell ⟨g, j.toNat * 3 + 2, none⟩ v1) base (fun _ => True) (.slice (some ⟨g, 0, none⟩) out.length cap) (addIns s out) ∧ w1.grownBy (w1.setCell ⟨g, j.toNat * 3 + 2, none⟩ v1) (some g) ∧ (∃ cells, w1.heap[g]? = some (.cells cells 51 (0, 0))) := by
 have hl : 0 < out.length := List.length_pos_iff.2 hne
 have h1 : j < (out.length : Int) := by omega
 obtain ⟨oki, c, hcl, hM, hcc, hfr, hoki, hH⟩ := Kd.S_elem hS z51 j h0 h1
 rw [edLast_eq out j hj] at hM
 obtain ⟨vi, rfl, hvi⟩ := k51_openM hM
 have hc2 := hcc 2 _ rfl
 obtain ⟨g', cap', e', _, hlt, cells0, hg0⟩ := Kd.S_form hS hl
 have hgg : g' = g := by injection e' with e' _ _; injection e' with e'; injection e' with e'; exact e'.symm
 subst hgg
 have hH2 := Kd.H_widen hH
 have hvi2 : Kd.R Kd.string 9 W base (fun k => oki k ∨ True ∧ W.heap.size ≤ k) vi (edLast out).f2 := Kd.R_mono hvi (fun k hk => .inl hk)
 obtain ⟨Ai, ci, evi⟩ := Kd.R_slice hvi
 refine ⟨vi, Ai, ci, fun k => oki k ∨ True ∧ W.heap.size ≤ k, evi, hc2, hvi2, fun k hk => .inr ⟨trivial, hk⟩, fun k hk => (hoki k (hvi.1 k hk)).2, fun W2 w1 v1 hb hg hR => ?_⟩
 have hne2 : ∀ k, vi.ownBlock = some k → k ≠ g' := fun k hk => (hoki k (hvi.1 k hk)).2
 have hgb : ¬ vi.ownBlock = some g' := fun h => hne2 _ h rfl
 have hlt2 : g' < W2.heap.size := Nat.lt_of_lt_of_le hlt hb.size
 have hcell : w1.heap[g']? = W.heap[g']? := (hg.block g' hlt2 (fun e => hgb e.symm)).trans (hb.block g' hlt)
 have hH3 := Kd.H_grown (Kd.H_below hH2 hb) hg (fun k hk => .inl (hvi.1 k hk))
 obtain ⟨h4, h5⟩ := Kd.H_seg hH3 h0 h1 (seg := [v1]) (j := 2) (show 2 + 1 ≤ 3 by decide) (by intro q hq; simp at hq; subst hq; exact (Kd.R_val hR).2)
 have hokne : ∀ k, (oki k ∨ True ∧ W.heap.size ≤ k) → k ≠ g' := by
  rintro k (hk | hk)
  ·exact (hoki k hk).2
  ·omega
 refine ⟨by rw [← hc2]; exact World.cell?_of_block hcell, by rw [← hfr 2]; exact World.frozen?_of_block hcell, ?_, h5, ⟨cells0, hcell.trans hg0⟩⟩
 unfold addIns
 rw [← hj]
 refine Kd.H_back h4 (okp := fun k => oki k ∨ True ∧ W.heap.size ≤ k) ?_ (fun _ hk => hk)
 exact k51_mkM _ base _ ⟨(edLast out).f0, (edLast out).f1, (edLast out).f2 ++ [s]⟩ (Kd.R_far hR (p := ⟨g', j.toNat * 3 + 2, none⟩) hokne v1)
end Go.Proofs.Ytlabiajcohmjhaa.Pr
