/-
Several plain texts in one.
-/
import Derived.Test.YtlabiajcohmjhaaGM2
import Derived.Test.YtlabiajcohmjhaaD7b
namespace Go.Proofs.Ytlabiajcohmjhaa.Pr
open Go.RowKit Go.Proofs.YtlabiajcohmjhaaW.PrintWords Go.Proofs.YtlabiajcohmjhaaW.PrintLast Go.Proofs.YtlabiajcohmjhaaW.PrintMore
set_option linter.unusedVariables false
set_option linter.unusedSimpArgs false
def manyL (z : Int) : List ByteArray → Nat
 | [] => 0
 | s :: l => (if 0 < s.size ∧ (bt s 0 = 32 ∨ bt s 0 = z) then 1 else 0) + manyL z l
end Go.Proofs.Ytlabiajcohmjhaa.Pr

namespace Go.Proofs.Ytlabiajcohmjhaa.Pr
open Go.RowKit Go.Proofs.YtlabiajcohmjhaaW.PrintWords Go.Proofs.YtlabiajcohmjhaaW.PrintLast Go.Proofs.YtlabiajcohmjhaaW.PrintMore
set_option linter.unusedVariables false
set_option linter.unusedSimpArgs false
theorem Many_l0 (l : List ByteArray) (z : Int) (hn : l.length ≤ 1099511627776) : ∀ (d i : Nat) (n : Int), l.length - i = d → i ≤ l.length → 0 ≤ n → n ≤ i → Ev (fun k => grapevineref05_Many.l0 k l z n (i : Int)) (n + manyL z (l.drop i)) := by
 intro d
 induction d with
 | zero =>
  intro i n hd hi h1 h2
  refine Ev.step (fun _ => grapevineref05_Many.l0.eq_2 ..) ?_
  simp only [if_neg (show ¬ (i : Int) < (l.length : Int) by omega)]
  rw [List.drop_of_length_le (by omega)]
  simp only [manyL, Int.natCast_zero, Int.add_zero]
  exact Ev.now _
 | succ d ih =>
  intro i n hd hi h1 h2
  refine Ev.step (fun _ => grapevineref05_Many.l0.eq_2 ..) ?_
  have h0 : i < l.length := by omega
  rw [List.drop_eq_getElem_cons h0]
  simp only [if_pos (show (i : Int) < (l.length : Int) by omega), if_pos (show 0 ≤ (i : Int) by omega), rdS_at h0, w_succ h0 (show l.length ≤ 4611686018427387904 by omega), w_in (show -9223372036854775808 ≤ n + 1 by omega) (show n + 1 ≤ 9223372036854775807 by omega), manyL]
  have hx := ih (i + 1) (n + 1) (by omega) (by omega) (by omega) (by omega)
  have hy := ih (i + 1) n (by omega) (by omega) (by omega) (by omega)
  by_cases c1 : (l[i].size : Int) > 0
  ·simp only [if_pos c1, if_pos (show (0 : Int) < (l[i].size : Int) by omega)]
   by_cases c2 : bt l[i] 0 = 32
   ·simp only [if_pos c2]
    rw [if_pos ⟨by omega, Or.inl c2⟩]
    rw [show n + (((1 + manyL z (l.drop (i + 1)) : Nat)) : Int) = n + 1 + (manyL z (l.drop (i + 1)) : Int) by push_cast; omega]
    exact hx
   simp only [if_neg c2]
   by_cases c3 : bt l[i] 0 = z
   ·simp only [if_pos c3]
    rw [if_pos ⟨by omega, Or.inr c3⟩]
    rw [show n + (((1 + manyL z (l.drop (i + 1)) : Nat)) : Int) = n + 1 + (manyL z (l.drop (i + 1)) : Int) by push_cast; omega]
    exact hx
   ·simp only [if_neg c3]
    rw [if_neg (by rintro ⟨_, h | h⟩; exact c2 h; exact c3 h), Nat.zero_add]
    exact hy
  ·simp only [if_neg c1]
   rw [if_neg (by rintro ⟨h, _⟩; omega), Nat.zero_add]
   exact hy
theorem Many_ev (l : List ByteArray) (z : Int) (hn : l.length ≤ 1099511627776) : Ev (fun k => grapevineref05_Many.f k l z) (manyL z l : Int) := by
 unfold grapevineref05_Many.f
 have h := Many_l0 l z hn _ 0 0 rfl (by omega) (by omega) (by omega)
 simpa using h
end Go.Proofs.Ytlabiajcohmjhaa.Pr

namespace Go.Proofs.Ytlabiajcohmjhaa.Pr
open Go.RowKit Go.Proofs.YtlabiajcohmjhaaW.PrintWords Go.Proofs.YtlabiajcohmjhaaW.PrintLast Go.Proofs.YtlabiajcohmjhaaW.PrintMore
set_option linter.unusedVariables false
set_option linter.unusedSimpArgs false
def hkLast (out : List Hk) : Hk := out.getD (out.length - 1) ⟨0, 0, 0, 0, []⟩
def hkSet (out : List Hk) (x : Hk) : List Hk := out.set (out.length - 1) x
def setH (W : World) (g o : Nat) (a0 a1 a2 a3 : Int) (v : Value) : World :=
 ((((W.setCell ⟨g, o, none⟩ (.int .i64 a0)).setCell ⟨g, o + 1, none⟩ (.int .i64 a1)).setCell ⟨g, o + 2, none⟩ (.int .i64 a2)).setCell ⟨g, o + 3, none⟩ (.int .i64 a3)).setCell ⟨g, o + 4, none⟩ v
theorem setH_cells (W : World) (g o : Nat) (a0 a1 a2 a3 : Int) (v : Value) : W.setCells g o [.int .i64 a0, .int .i64 a1, .int .i64 a2, .int .i64 a3, v] = setH W g o a0 a1 a2 a3 v := rfl
theorem own_hunk {W : World} {base g cap : Nat} {out : List Hk} {j : Int} (hS : Kd.S k33 33 W base (fun _ => True) (.slice (some ⟨g, 0, none⟩) out.length cap) out) (hne : out ≠ []) (h0 : 0 ≤ j) (hj : j.toNat = out.length - 1) :
  ∃ (Ai : Option Addr) (ci : Nat) (oki : Nat → Prop), Kd.R Kd.string 9 W base oki (.slice Ai (hkLast out).f4.length ci) (hkLast out).f4 ∧ (∀ k, W.heap.size ≤ k → oki k) ∧ (∀ k, (.slice Ai (hkLast out).f4.length ci : Value).ownBlock = some k → k ≠ g ∧ k < W.heap.size) ∧ g < W.heap.size ∧
   (∀ (q : Nat) (u : Value), [.int .i64 (hkLast out).f0, .int .i64 (hkLast out).f1, .int .i64 (hkLast out).f2, .int .i64 (hkLast out).f3, .slice Ai (hkLast out).f4.length ci][q]? = some u → W.cell? ⟨g, j.toNat * 5 + q, none⟩ = some u) ∧
   ∀ (w1 : World) (v1 : Value) (x' : Hk), W.grownBy w1 (.slice Ai (hkLast out).f4.length ci : Value).ownBlock → Kd.R Kd.string 9 w1 base oki v1 x'.f4 →
    (∀ (q : Nat) (u : Value), [.int .i64 (hkLast out).f0, .int .i64 (hkLast out).f1, .int .i64 (hkLast out).f2, .int .i64 (hkLast out).f3, .slice Ai (hkLast out).f4.length ci][q]? = some u → w1.cell? ⟨g, j.toNat * 5 + q, none⟩ = some u) ∧ (∀ q : Nat, w1.frozen? ⟨g, j.toNat * 5 + q, none⟩ = false) ∧
    Kd.S k33 33 (setH w1 g (j.toNat * 5) x'.f0 x'.f1 x'.f2 x'.f3 v1) base (fun _ => True) (.slice (some ⟨g, 0, none⟩) out.length cap) (hkSet out x') ∧ w1.grownBy (setH w1 g (j.toNat * 5) x'.f0 x'.f1 x'.f2 x'.f3 v1) (some g) := by
 have hl : 0 < out.length := List.length_pos_iff.2 hne
 have h1 : j < (out.length : Int) := by omega
 obtain ⟨oki, c, hcl, hM, hcc, hfr, hoki, hH⟩ := Kd.S_elem hS (⟨0, 0, 0, 0, []⟩ : Hk) j h0 h1
 have e : out.getD j.toNat ⟨0, 0, 0, 0, []⟩ = hkLast out := by rw [hj]; rfl
 rw [e] at hM
 obtain ⟨vi, rfl, hvi⟩ := k33_openM hM
 obtain ⟨g', cap', e', _, hlt, cells0, hg0⟩ := Kd.S_form hS hl
 have hgg : g' = g := by injection e' with e' _ _; injection e' with e'; injection e' with e'; exact e'.symm
 subst hgg
 have hH2 := Kd.H_widen hH
 obtain ⟨Ai, ci, evi⟩ := Kd.R_slice hvi
 subst evi
 have hvi2 : Kd.R Kd.string 9 W base (fun k => oki k ∨ True ∧ W.heap.size ≤ k) (.slice Ai (hkLast out).f4.length ci) (hkLast out).f4 := Kd.R_mono hvi (fun k hk => .inl hk)
 have hok1 : ∀ k, (.slice Ai (hkLast out).f4.length ci : Value).ownBlock = some k → k ≠ g' := fun k hk => (hoki k (hvi.1 k hk)).2
 refine ⟨Ai, ci, fun k => oki k ∨ True ∧ W.heap.size ≤ k, hvi2, fun k hk => .inr ⟨trivial, hk⟩, fun k hk => ⟨hok1 k hk, Kd.R_lt hvi k hk⟩, hlt, fun q u hq => hcc q u hq, fun w1 v1 x' hg hR => ?_⟩
 have hgb : ¬ (.slice Ai (hkLast out).f4.length ci : Value).ownBlock = some g' := fun h => hok1 _ h rfl
 have hcell : w1.heap[g']? = W.heap[g']? := hg.block g' hlt (fun e => hgb e.symm)
 have hH3 := Kd.H_grown hH2 hg (fun k hk => .inl (hvi.1 k hk))
 obtain ⟨h4, h5⟩ := Kd.H_seg hH3 h0 h1 (seg := [.int .i64 x'.f0, .int .i64 x'.f1, .int .i64 x'.f2, .int .i64 x'.f3, v1]) (j := 0) (show 0 + 5 ≤ 5 by decide) (by
  intro q hq
  simp only [List.mem_cons, List.not_mem_nil, or_false] at hq
  rcases hq with rfl | rfl | rfl | rfl | rfl
  ·rfl
  ·rfl
  ·rfl
  ·rfl
  ·exact (Kd.R_val hR).2)
 have hokne : ∀ k, (oki k ∨ True ∧ W.heap.size ≤ k) → k ≠ g' := by
  rintro k (hk | hk)
  ·exact (hoki k hk).2
  ·omega
 have hsz : k33.sz = 5 := rfl
 rw [hsz, Nat.add_zero, setH_cells] at h4 h5
 refine ⟨fun q u hq => by rw [← hcc q u hq]; exact World.cell?_of_block hcell, fun q => by rw [← hfr q]; exact World.frozen?_of_block hcell, ?_, h5⟩
 unfold hkSet
 rw [← hj]
 refine Kd.H_back h4 (okp := fun k => oki k ∨ True ∧ W.heap.size ≤ k) ?_ (fun _ hk => hk)
 have hRf : Kd.R Kd.string 9 (setH w1 g' (j.toNat * 5) x'.f0 x'.f1 x'.f2 x'.f3 v1) base (fun k => oki k ∨ True ∧ W.heap.size ≤ k) v1 x'.f4 := by
  unfold setH
  exact Kd.R_far (Kd.R_far (Kd.R_far (Kd.R_far (Kd.R_far hR (p := ⟨g', j.toNat * 5, none⟩) hokne _) (p := ⟨g', j.toNat * 5 + 1, none⟩) hokne _) (p := ⟨g', j.toNat * 5 + 2, none⟩) hokne _) (p := ⟨g', j.toNat * 5 + 3, none⟩) hokne _) (p := ⟨g', j.toNat * 5 + 4, none⟩) hokne _
 exact k33_mkM _ base _ x' hRf
structure MBox (w W0 : World) (base : Nat) (oki : Nat → Prop) (vi : Value) (g2 : Nat) (a0 a1 a2 a3 : Int) (v : Value) (L : List ByteArray) (wr : World) : Prop where
 grow : W0.grownBy wr vi.ownBlock
 row : Kd.R Kd.string 9 wr base oki v L
 box : wr.heap[g2]? = some (.cells #[.int .i64 a0, .int .i64 a1, .int .i64 a2, .int .i64 a3, v] 33 (0, 0))
 at_ : ∀ k, v.ownBlock = some k → k < W0.heap.size → vi.ownBlock = some k
 new_ : W0.heap.size ≤ g2
 old_ : w.heap.size ≤ W0.heap.size
 bel : Below w.heap.size w wr
theorem MBox.below {w W0 : World} {base : Nat} {oki : Nat → Prop} {vi : Value} {g2 : Nat} {a0 a1 a2 a3 : Int} {v : Value} {L : List ByteArray} {wr w1 : World} (h : MBox w W0 base oki vi g2 a0 a1 a2 a3 v L wr) (hb : Below wr.heap.size wr w1) : MBox w W0 base oki vi g2 a0 a1 a2 a3 v L w1 :=
 ⟨⟨hb.os.trans h.grow.os, hb.tape.trans h.grow.tape, hb.output.trans h.grow.output, Nat.le_trans h.grow.size hb.size, fun k hk hne => (hb.block k (Nat.lt_of_lt_of_le hk h.grow.size)).trans (h.grow.block k hk hne)⟩,
  Kd.R_below h.row hb, blk_below h.box hb, h.at_, h.new_, h.old_, below_then h.bel h.bel.size hb⟩
theorem MBox.drewN {w W0 : World} {base : Nat} {oki : Nat → Prop} {vi : Value} {g2 : Nat} {a0 a1 a2 a3 : Int} {v : Value} {L : List ByteArray} {wr : World} (h : MBox w W0 base oki vi g2 a0 a1 a2 a3 v L wr) (n : Nat) : MBox w W0 base oki vi g2 a0 a1 a2 a3 v L (wr.drewN n) := h.below (pw_below_drewN (Below.refl _ _) n)
theorem MBox.drew {w W0 : World} {base : Nat} {oki : Nat → Prop} {vi : Value} {g2 : Nat} {a0 a1 a2 a3 : Int} {v : Value} {L : List ByteArray} {wr : World} (h : MBox w W0 base oki vi g2 a0 a1 a2 a3 v L wr) : MBox w W0 base oki vi g2 a0 a1 a2 a3 v L wr.drew := h.below (below_drew (Below.refl _ _))
theorem MBox.step {w W0 : World} {base : Nat} {oki : Nat → Prop} {vi : Value} {g2 : Nat} {a0 a1 a2 a3 : Int} {v v3 : Value} {L L' : List ByteArray} {wr w5 : World} (h : MBox w W0 base oki vi g2 a0 a1 a2 a3 v L wr) (hg : wr.grownBy w5 v.ownBlock) (hR : Kd.R Kd.string 9 w5 base oki v3 L') (hb : Below w.heap.size w w5)
  (hat : v3.ownBlock = v.ownBlock ∨ ∃ b, v3.ownBlock = some b ∧ wr.heap.size ≤ b) :
  w5.heap[g2]? = some (.cells #[.int .i64 a0, .int .i64 a1, .int .i64 a2, .int .i64 a3, v] 33 (0, 0)) ∧ MBox w W0 base oki vi g2 a0 a1 a2 a3 v3 L' (w5.setCell ⟨g2, 4, none⟩ v3) := by
 have hne : some g2 ≠ v.ownBlock := by
  intro he
  obtain ⟨cells, hc⟩ := Kd.R_typed h.row g2 he.symm
  rw [h.box] at hc
  injection hc with hc
  injection hc with _ hc
  exact absurd hc (by decide)
 have hbx := blk_grown h.box hg hne
 have hne3 : ∀ k, v3.ownBlock = some k → k ≠ g2 := by
  intro k hk he
  subst he
  obtain ⟨cells, hc⟩ := Kd.R_typed hR k hk
  rw [hbx] at hc
  injection hc with hc
  injection hc with _ hc
  exact absurd hc (by decide)
 refine ⟨hbx, ⟨⟨?_, ?_, ?_, ?_, ?_⟩, ?_, blk_set hbx 4 v3, ?_, h.new_, h.old_, ?_⟩⟩
 ·exact hg.os.trans h.grow.os
 ·exact hg.tape.trans h.grow.tape
 ·exact hg.output.trans h.grow.output
 ·have h1 := h.grow.size
  have h2 := hg.size
  show _ ≤ (w5.setCell ⟨g2, 4, none⟩ v3).heap.size
  rw [World.size_setCell]
  omega
 ·intro k hk hkn
  have h1 := h.grow.size
  rw [Below.heap_setCell w5 ⟨g2, 4, none⟩ v3 k (by have := h.new_; show k ≠ g2; omega)]
  rw [hg.block k (by omega) (fun he => hkn ((h.at_ k he.symm hk).symm))]
  exact h.grow.block k hk hkn
 ·exact Kd.R_mono (Kd.R_far (p := ⟨g2, 4, none⟩) (Kd.R_tight rfl hR) (fun k hk => hne3 k hk.symm) v3) (fun k hk => hR.1 k hk.symm)
 ·intro k hk hk0
  rcases hat with hat | ⟨b, hb1, hb2⟩
  ·exact h.at_ k (hat ▸ hk) hk0
  ·rw [hb1] at hk
   injection hk with hk
   have := h.grow.size
   omega
 ·exact below_set hb (Nat.le_trans h.old_ h.new_)
end Go.Proofs.Ytlabiajcohmjhaa.Pr

namespace Go.Proofs.Ytlabiajcohmjhaa.Pr
open Go.RowKit Go.Proofs.YtlabiajcohmjhaaW.PrintWords Go.Proofs.YtlabiajcohmjhaaW.PrintLast Go.Proofs.YtlabiajcohmjhaaW.PrintMore
set_option linter.unusedVariables false
set_option linter.unusedSimpArgs false
def farE (ar : Int) : Option Ed → Ed → Bool
 | none, _ => true
 | some q, e => decide (2 * ar < e.f0 - (q.f0 + q.f1))
def isLast (ar : Int) (e : Ed) : List Ed → Bool
 | [] => true
 | q :: _ => decide (2 * ar < q.f0 - (e.f0 + e.f1))
def endR (a : List ByteArray) (ar : Int) (e : Ed) (l : List Ed) : Nat := if isLast ar e l = true then toH a e [] ar else (e.f0 + e.f1).toNat
def linesR (a : List ByteArray) (ar : Int) (L : List ByteArray) (t : Nat) (e : Ed) (l : List Ed) : List ByteArray :=
 L ++ (sgs 32 ((a.take e.f0.toNat).drop t) ++ (sgs 45 ((a.take (e.f0 + e.f1).toNat).drop e.f0.toNat) ++ (sgs 43 e.f2 ++ sgs 32 ((a.take (endR a ar e l)).drop (e.f0 + e.f1).toNat))))
def hunkR (h : Hk) (L : List ByteArray) : Hk := ⟨h.f0, (manyL 45 L : Int), h.f2, (manyL 43 L : Int), L⟩
def openR (ar : Int) (prev : Option Ed) (out : List Hk) (more : Int) (e : Ed) : List Hk := if farE ar prev e = true then out ++ [⟨(fromH e ar : Int), 0, (fromH e ar : Int) + more, 0, []⟩] else out
def fromR (ar : Int) (prev : Option Ed) (t : Nat) (e : Ed) : Nat := if farE ar prev e = true then fromH e ar else t
def makeR (a : List ByteArray) (ar : Int) : Option Ed → List Hk → Nat → Int → List Ed → List Hk
 | _, out, _, _, [] => out
 | prev, out, t, more, e :: l =>
  makeR a ar (some e) ((openR ar prev out more e).set ((openR ar prev out more e).length - 1) (hunkR (hkLast (openR ar prev out more e)) (linesR a ar (hkLast (openR ar prev out more e)).f4 (fromR ar prev t e) e l))) (endR a ar e l) (more + ((e.f2.length : Int) - e.f1)) l
theorem hkLast_end (out : List Hk) (h : Hk) : hkLast (out ++ [h]) = h := by
 unfold hkLast
 rw [List.getD_eq_getElem?_getD, List.length_append, List.length_singleton, Nat.add_sub_cancel, List.getElem?_append_right (Nat.le_refl _), Nat.sub_self]
 rfl
theorem set_end (out : List Hk) (h x : Hk) : (out ++ [h]).set ((out ++ [h]).length - 1) x = out ++ [x] := by
 rw [List.length_append, List.length_singleton, Nat.add_sub_cancel, List.set_append_right _ _ (Nat.le_refl _), Nat.sub_self]
 rfl
theorem manyL_app (z : Int) : ∀ x y, manyL z (x ++ y) = manyL z x + manyL z y
 | [], y => by simp [manyL]
 | s :: x, y => by have := manyL_app z x y; simp only [List.cons_append, manyL]; omega
theorem manyL_sgs (z : Int) (c : UInt8) (b : Nat) (hb : b = if (c.toNat : Int) = 32 ∨ (c.toNat : Int) = z then 1 else 0) : ∀ l, manyL z (sgs c l) = b * l.length
 | [] => by simp [sgs, manyL]
 | s :: l => by
  have ih := manyL_sgs z c b hb l
  show manyL z (sg c s :: sgs c l) = _
  rw [manyL, sg_bt, ih, List.length_cons, Nat.mul_add, Nat.mul_one, hb]
  have hp : 0 < (sg c s).size := by rw [sg_size]; omega
  by_cases h : (c.toNat : Int) = 32 ∨ (c.toNat : Int) = z
  ·rw [if_pos ⟨hp, h⟩, if_pos h]; omega
  ·rw [if_neg (fun h2 => h h2.2), if_neg h]; omega
theorem manyL_blk : ∀ (bs : List Blk) (t : List ByteArray), manyL 45 (blkLines bs t) = oldN bs + t.length ∧ manyL 43 (blkLines bs t) = newN bs + t.length
 | [], t => by
  have h1 := manyL_sgs 45 32 1 (by decide) t
  have h2 := manyL_sgs 43 32 1 (by decide) t
  simp only [blkLines, oldN, newN, h1, h2]; omega
 | b :: bs, t => by
  have ih := manyL_blk bs t
  have a1 := manyL_sgs 45 32 1 (by decide) b.k
  have a2 := manyL_sgs 43 32 1 (by decide) b.k
  have b1 := manyL_sgs 45 45 1 (by decide) b.d
  have b2 := manyL_sgs 43 45 0 (by decide) b.d
  have c1 := manyL_sgs 45 43 0 (by decide) b.i
  have c2 := manyL_sgs 43 43 1 (by decide) b.i
  simp only [blkLines, manyL_app, oldN, newN]
  omega
theorem blkLines_snoc : ∀ (bs : List Blk) (b : Blk) (t : List ByteArray), blkLines (bs ++ [b]) t = blkLines bs [] ++ (sgs 32 b.k ++ (sgs 45 b.d ++ (sgs 43 b.i ++ sgs 32 t)))
 | [], b, t => rfl
 | c :: bs, b, t => by
  have ih := blkLines_snoc bs b t
  simp only [List.cons_append, blkLines, ih, List.append_assoc]
theorem blks_snoc (a : List ByteArray) : ∀ (l : List Ed) (t t' : Nat) (e : Ed), (match l with | [] => t' = t | p :: r => t' = (endE p r).toNat) →
  blks a t (l ++ [e]) = blks a t l ++ [⟨(a.take e.f0.toNat).drop t', (a.take (e.f0 + e.f1).toNat).drop e.f0.toNat, e.f2⟩]
 | [], t, t', e, h => by
  have h' : t' = t := h
  subst h'; rfl
 | p :: l, t, t', e, h => by
  have h' : t' = (endE p l).toNat := h
  have ih := blks_snoc a l (p.f0 + p.f1).toNat t' e (by
   cases l with
   | nil => exact h'
   | cons q r => exact h')
  rw [List.cons_append, blks, ih]
  rfl
theorem endE_snoc : ∀ (l : List Ed) (p e : Ed), endE p (l ++ [e]) = e.f0 + e.f1
 | [], p, e => rfl
 | q :: l, p, e => endE_snoc l q e
theorem diffE_app : ∀ x y, diffE (x ++ y) = diffE x + diffE y
 | [], y => by simp [diffE]
 | e :: x, y => by have := diffE_app x y; simp only [List.cons_append, diffE]; omega
def headE (gs : List Ed) (e : Ed) : Ed := gs.headD e
def restE (gs : List Ed) (e : Ed) (g : List Ed) : List Ed := match gs with | [] => g | _ :: r => r ++ e :: g
theorem cons_restE (gs : List Ed) (e : Ed) (g : List Ed) : headE gs e :: restE gs e g = gs ++ e :: g := by
 cases gs with
 | nil => rfl
 | cons q r => rfl
def tE (a : List ByteArray) (fm : Nat) : List Ed → Nat
 | [] => fm
 | p :: r => (endE p r).toNat
theorem blks_snoc' (a : List ByteArray) (fm : Nat) (gs : List Ed) (e : Ed) : blks a fm (gs ++ [e]) = blks a fm gs ++ [⟨(a.take e.f0.toNat).drop (tE a fm gs), (a.take (e.f0 + e.f1).toNat).drop e.f0.toNat, e.f2⟩] := by
 refine blks_snoc a gs fm _ e ?_
 cases gs with
 | nil => rfl
 | cons p r => rfl
theorem tE_snoc (a : List ByteArray) (fm : Nat) (gs : List Ed) (e : Ed) : tE a fm (gs ++ [e]) = (e.f0 + e.f1).toNat := by
 cases gs with
 | nil => rfl
 | cons p r => show (endE p (r ++ [e])).toNat = _; rw [endE_snoc]
theorem endE_restE (gs : List Ed) (e : Ed) : endE (headE gs e) (restE gs e []) = e.f0 + e.f1 := by
 cases gs with
 | nil => rfl
 | cons p r => exact endE_snoc r p e
theorem cons_app (gs : List Ed) (e : Ed) (l : List Ed) : headE gs e :: (restE gs e [] ++ l) = gs ++ e :: l := by
 cases gs with
 | nil => rfl
 | cons q r => show q :: ((r ++ [e]) ++ l) = q :: (r ++ e :: l); rw [List.append_assoc]; rfl
theorem headE_snoc (gs : List Ed) (e q : Ed) : headE (gs ++ [e]) q = headE gs e := by
 cases gs with
 | nil => rfl
 | cons p r => rfl
theorem restE_snoc (gs : List Ed) (e q : Ed) (g : List Ed) : restE (gs ++ [e]) q g = restE gs e (q :: g) := by
 cases gs with
 | nil => rfl
 | cons p r => show (r ++ [e]) ++ q :: g = r ++ e :: q :: g; rw [List.append_assoc]; rfl
theorem closed_eq (a : List ByteArray) (ar more0 fr An Bn : Int) (har : 0 ≤ ar) (hf : 0 ≤ fr) (gs : List Ed) (e : Ed) (l : List Ed) (ho : okFrom fr a.length (headE gs e :: restE gs e []) = true) (hl : isLast ar e l = true) :
  hunkR ⟨(fromH (headE gs e) ar : Int), An, (fromH (headE gs e) ar : Int) + more0, Bn, blkLines (blks a (fromH (headE gs e) ar) gs) []⟩ (linesR a ar (blkLines (blks a (fromH (headE gs e) ar) gs) []) (tE a (fromH (headE gs e) ar) gs) e l) = hunkOf a ar more0 (headE gs e) (restE gs e []) := by
 have hE := endE_restE gs e
 have hto : toH a e [] ar = toH a (headE gs e) (restE gs e []) ar := by unfold toH; rw [hE]; rfl
 have hL : linesR a ar (blkLines (blks a (fromH (headE gs e) ar) gs) []) (tE a (fromH (headE gs e) ar) gs) e l = linesH a ar (headE gs e) (restE gs e []) := by
  rw [linesR, endR, if_pos hl, linesH, cons_restE, blks_snoc', blkLines_snoc, hto, hE]
 obtain ⟨c1, c2, c3, c4, c5, ho'⟩ := okFrom_cons ho
 have ho0 : okFrom (headE gs e).f0 a.length (headE gs e :: restE gs e []) = true := by
  simp only [okFrom, Bool.and_eq_true, decide_eq_true_eq]
  exact ⟨⟨Int.le_refl _, c2, c3, c4, c5⟩, ho'⟩
 have hft : (fromH (headE gs e) ar : Int) ≤ (headE gs e).f0 := by unfold fromH; omega
 have h2 := blks_counts a (restE gs e []) (headE gs e) (headE gs e).f0 (fromH (headE gs e) ar) hft ho0
 have h3 := tail_len a ar (headE gs e) (restE gs e []) fr har hf ho
 have h4 := manyL_blk (blks a (fromH (headE gs e) ar) (headE gs e :: restE gs e [])) ((a.take (toH a (headE gs e) (restE gs e []) ar)).drop (endE (headE gs e) (restE gs e [])).toNat)
 rw [hL, hunkR, hunkOf]
 have e1 : (manyL 45 (linesH a ar (headE gs e) (restE gs e [])) : Int) = (toH a (headE gs e) (restE gs e []) ar : Int) - fromH (headE gs e) ar := by rw [linesH, h4.1]; push_cast; omega
 have e2 : (manyL 43 (linesH a ar (headE gs e) (restE gs e [])) : Int) = (toH a (headE gs e) (restE gs e []) ar : Int) - fromH (headE gs e) ar + diffE (headE gs e :: restE gs e []) := by rw [linesH, h4.2]; push_cast; omega
 rw [e1, e2]
theorem open_eq (a : List ByteArray) (ar : Int) (fm : Nat) (gs : List Ed) (e : Ed) (l : List Ed) (hl : isLast ar e l = false) :
  linesR a ar (blkLines (blks a fm gs) []) (tE a fm gs) e l = blkLines (blks a fm (gs ++ [e])) [] ∧ endR a ar e l = (e.f0 + e.f1).toNat := by
 have h1 : endR a ar e l = (e.f0 + e.f1).toNat := by rw [endR, if_neg (by rw [hl]; simp)]
 refine ⟨?_, h1⟩
 have hz : (a.take (e.f0 + e.f1).toNat).drop (e.f0 + e.f1).toNat = [] := List.drop_of_length_le (by rw [List.length_take]; omega)
 rw [linesR, h1, blks_snoc', blkLines_snoc, hz]
theorem makeR_K (a : List ByteArray) (ar : Int) (har : 0 ≤ ar) : ∀ (N : Nat) (l : List Ed) (e : Ed) (gs : List Ed) (out0 : List Hk) (more0 fr An Bn : Int), l.length ≤ N → 0 ≤ fr → okFrom fr a.length (gs ++ e :: l) = true →
  makeR a ar (some e) (out0 ++ [hunkR ⟨(fromH (headE gs e) ar : Int), An, (fromH (headE gs e) ar : Int) + more0, Bn, blkLines (blks a (fromH (headE gs e) ar) gs) []⟩ (linesR a ar (blkLines (blks a (fromH (headE gs e) ar) gs) []) (tE a (fromH (headE gs e) ar) gs) e l)]) (endR a ar e l) (more0 + diffE gs + ((e.f2.length : Int) - e.f1)) l
   = out0 ++ hunkOf a ar more0 (headE gs e) (restE gs e (grp ar e l).1) :: makeH a ar (more0 + diffE (gs ++ e :: (grp ar e l).1)) (grp ar e l).2 := by
 intro N
 induction N with
 | zero =>
  intro l e gs out0 more0 fr An Bn hN hf ho
  have hl : l = [] := List.eq_nil_of_length_eq_zero (by omega)
  subst hl
  rw [← cons_app, List.append_nil] at ho
  rw [closed_eq a ar more0 fr An Bn har hf gs e [] ho rfl, makeR, grp, makeH]
 | succ N ih =>
  intro l e gs out0 more0 fr An Bn hN hf ho
  cases l with
  | nil =>
   rw [← cons_app, List.append_nil] at ho
   rw [closed_eq a ar more0 fr An Bn har hf gs e [] ho rfl, makeR, grp, makeH]
  | cons q l =>
   have ho2 := ho
   rw [← cons_app] at ho2
   have hsp := okFrom_split (restE gs e []) (headE gs e) (q :: l) fr ho2
   have hla := okFrom_last _ _ _ hsp.1
   simp only [List.length_cons] at hN
   have hd : diffE (gs ++ [e]) = diffE gs + ((e.f2.length : Int) - e.f1) := by rw [diffE_app]; simp only [diffE]; omega
   by_cases c : q.f0 - e.f0 - e.f1 ≤ 2 * ar
   ·have hlast : isLast ar e (q :: l) = false := decide_eq_false (by omega)
    have hfar : farE ar (some e) q = false := decide_eq_false (by omega)
    obtain ⟨hL, hE⟩ := open_eq a ar (fromH (headE gs e) ar) gs e (q :: l) hlast
    rw [hL, hE, makeR, openR, fromR, if_neg (by rw [hfar]; simp), if_neg (by rw [hfar]; simp), hkLast_end, set_end, grp, if_pos c]
    have h := ih l q (gs ++ [e]) out0 more0 fr (manyL 45 (blkLines (blks a (fromH (headE gs e) ar) (gs ++ [e])) []) : Int) (manyL 43 (blkLines (blks a (fromH (headE gs e) ar) (gs ++ [e])) []) : Int) (by omega) hf (by rw [List.append_assoc]; exact ho)
    rw [headE_snoc, tE_snoc, restE_snoc, hd, List.append_assoc] at h
    rw [← Int.add_assoc more0 (diffE gs)] at h
    exact h
   ·have hlast : isLast ar e (q :: l) = true := decide_eq_true (by omega)
    have hfar : farE ar (some e) q = true := decide_eq_true (by omega)
    rw [closed_eq a ar more0 fr An Bn har hf gs e (q :: l) hsp.1 hlast, makeR, openR, fromR, if_pos hfar, if_pos hfar, hkLast_end, set_end, grp, if_neg c]
    have h := ih l q [] (out0 ++ [hunkOf a ar more0 (headE gs e) (restE gs e [])]) (more0 + diffE gs + ((e.f2.length : Int) - e.f1)) (endE (headE gs e) (restE gs e []) + 1) 0 0 (by omega) (by omega) hsp.2
    have e0 : diffE ([] : List Ed) = 0 := rfl
    rw [e0, Int.add_zero] at h
    have e1 : more0 + diffE (gs ++ [e]) = more0 + diffE gs + ((e.f2.length : Int) - e.f1) := by rw [hd]; omega
    show makeR a ar (some q) _ _ _ l = out0 ++ hunkOf a ar more0 (headE gs e) (restE gs e []) :: makeH a ar (more0 + diffE (gs ++ [e])) (q :: l)
    rw [e1, makeH]
    refine Eq.trans h ?_
    rw [List.append_assoc]
    rfl
theorem makeR_eq (a : List ByteArray) (ar : Int) (har : 0 ≤ ar) (l : List Ed) (ho : okFrom 0 a.length l = true) : makeR a ar none [] 0 0 l = makeH a ar 0 l := by
 cases l with
 | nil => rw [makeR, makeH]
 | cons p l =>
  have hfar : farE ar none p = true := rfl
  have h := makeR_K a ar har l.length l p [] [] 0 0 0 0 (Nat.le_refl _) (by omega) ho
  have e0 : diffE ([] : List Ed) = 0 := rfl
  rw [e0, Int.add_zero] at h
  rw [makeR, openR, fromR, if_pos hfar, if_pos hfar, hkLast_end, set_end, makeH]
  exact h
end Go.Proofs.Ytlabiajcohmjhaa.Pr
-- shrunk
