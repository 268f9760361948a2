/-
Several plain texts in one.
-/
import Derived.Test.YtoaijganmfijmaaK0
import Derived.Test.YtoaijganmfijmaaD3
import Derived.Lib.SlicesS
import Derived.IntWalk
/-
Lines of a hunk as blocks: lines that stay, lines that go, lines that come; what count, run, Edits and Turn make of them.
-/
namespace Go.Proofs.Ytoaijganmfijmaa.Pr
open Go.RowKit Go.Proofs.YtoaijganmfijmaaW.PrintWords Go.Proofs.YtoaijganmfijmaaW.PrintLast Go.Proofs.YtoaijganmfijmaaW.PrintMore
set_option linter.unusedVariables false
set_option linter.unusedSimpArgs false
structure Blk where
 k : List ByteArray
 d : List ByteArray
 i : List ByteArray
def blkLines : List Blk → List ByteArray → List ByteArray
 | [], t => sgs 32 t
 | b :: bs, t => sgs 32 b.k ++ (sgs 45 b.d ++ (sgs 43 b.i ++ blkLines bs t))
def BOk : Bool → List Blk → Prop
 | _, [] => True
 | f, b :: bs => (b.d ≠ [] ∨ b.i ≠ []) ∧ (f = true ∨ b.k ≠ []) ∧ BOk false bs
def oldN : List Blk → Nat
 | [] => 0
 | b :: bs => b.k.length + b.d.length + oldN bs
def newN : List Blk → Nat
 | [] => 0
 | b :: bs => b.k.length + b.i.length + newN bs
def swapB (b : Blk) : Blk := ⟨b.k, b.i, b.d⟩
theorem swapB_swapB (bs : List Blk) : (bs.map swapB).map swapB = bs := by
 rw [List.map_map]; have : swapB ∘ swapB = id := by funext b; rfl
 rw [this, List.map_id]
theorem BOk_swap : ∀ (f : Bool) (bs : List Blk), BOk f bs → BOk f (bs.map swapB)
 | _, [], _ => trivial
 | f, b :: bs, h => ⟨h.1.symm, h.2.1, BOk_swap false bs h.2.2⟩
theorem oldN_swap : ∀ bs : List Blk, oldN (bs.map swapB) = newN bs
 | [] => rfl
 | b :: bs => by simp only [List.map_cons, oldN, newN, oldN_swap bs, swapB]
theorem newN_swap : ∀ bs : List Blk, newN (bs.map swapB) = oldN bs
 | [] => rfl
 | b :: bs => by simp only [List.map_cons, oldN, newN, newN_swap bs, swapB]
theorem blkLines_len : ∀ (bs : List Blk) (t : List ByteArray), (blkLines bs t).length ≤ oldN bs + newN bs + t.length
 | [], t => by simp [blkLines, sgs_len, oldN, newN]
 | b :: bs, t => by
  have := blkLines_len bs t
  simp only [blkLines, List.length_append, sgs_len, oldN, newN]; omega
theorem blkLines_size : ∀ (bs : List Blk) (t : List ByteArray), ∀ s ∈ blkLines bs t, 1 ≤ s.size
 | [], t, s, h => by
  simp only [blkLines, sgs, List.mem_map] at h
  obtain ⟨x, _, rfl⟩ := h
  rw [sg_size]; omega
 | b :: bs, t, s, h => by
  simp only [blkLines, List.mem_append] at h
  have hm : ∀ (c : UInt8) (l : List ByteArray), s ∈ sgs c l → 1 ≤ s.size := by
   intro c l h
   simp only [sgs, List.mem_map] at h
   obtain ⟨x, _, rfl⟩ := h
   rw [sg_size]; omega
  rcases h with h | h | h | h
  ·exact hm _ _ h
  ·exact hm _ _ h
  ·exact hm _ _ h
  ·exact blkLines_size bs t s h
theorem run_tail (z : Int) (hz : z ≠ 32) : ∀ (bs : List Blk) (t : List ByteArray), BOk false bs → runLen z (blkLines bs t) = 0
 | [], [], _ => rfl
 | [], s :: t, _ => by
  have h := runLen_other 32 z (by intro e; exact hz e.symm) (s :: t) [] (by simp)
  simpa [blkLines] using h
 | b :: bs, t, h => by
  rcases h.2.1 with h1 | h1
  ·exact absurd h1 (by simp)
  ·exact runLen_other 32 z (by intro e; exact hz e.symm) _ _ h1
theorem run_32 (f : Bool) (b : Blk) (bs : List Blk) (t : List ByteArray) (h : BOk f (b :: bs)) : runLen 32 (blkLines (b :: bs) t) = b.k.length := by
 rw [blkLines, runLen_same 32 32 rfl]
 by_cases hd : b.d = []
 ·have hi : b.i ≠ [] := by rcases h.1 with h1 | h1 <;> simp_all
  rw [hd]
  show _ + runLen 32 (sgs 43 b.i ++ _) = _
  rw [runLen_other 43 32 (by decide) _ _ hi]; rfl
 ·rw [runLen_other 45 32 (by decide) _ _ hd]; rfl
theorem run_45 (f : Bool) (b : Blk) (bs : List Blk) (t : List ByteArray) (h : BOk f (b :: bs)) : runLen 45 (sgs 45 b.d ++ (sgs 43 b.i ++ blkLines bs t)) = b.d.length := by
 rw [runLen_same 45 45 rfl]
 by_cases hi : b.i = []
 ·rw [hi]
  show _ + runLen 45 (blkLines bs t) = _
  rw [run_tail 45 (by decide) bs t h.2.2]; rfl
 ·rw [runLen_other 43 45 (by decide) _ _ hi]; rfl
theorem run_43 (f : Bool) (b : Blk) (bs : List Blk) (t : List ByteArray) (h : BOk f (b :: bs)) : runLen 43 (sgs 43 b.i ++ blkLines bs t) = b.i.length := by
 rw [runLen_same 43 43 rfl, run_tail 43 (by decide) bs t h.2.2]; rfl
theorem cntL_32 : ∀ (l : List ByteArray) (came : Bool) (an bn : Int) (R : List ByteArray), cntL came an bn (sgs 32 l ++ R) = cntL (if l = [] then came else false) (an + l.length) (bn + l.length) R
 | [], came, an, bn, R => by simp [sgs]
 | s :: l, came, an, bn, R => by
  have h := cntL_32 l false (an + 1) (bn + 1) R
  show cntL came an bn (sg 32 s :: (sgs 32 l ++ R)) = _
  rw [cntL, if_neg (sg_toList _ _), sg_bt, if_neg (by rintro ⟨h, _⟩; exact absurd h (by decide)), if_pos (by rfl), h]
  simp only [ite_self, if_neg (show ¬ (s :: l = []) by simp), List.length_cons]
  congr 1 <;> (push_cast; omega)
theorem cntL_45 : ∀ (l : List ByteArray) (an bn : Int) (R : List ByteArray), cntL false an bn (sgs 45 l ++ R) = cntL false (an + l.length) bn R
 | [], an, bn, R => by simp [sgs]
 | s :: l, an, bn, R => by
  have h := cntL_45 l (an + 1) bn R
  show cntL false an bn (sg 45 s :: (sgs 45 l ++ R)) = _
  rw [cntL, if_neg (sg_toList _ _), sg_bt, if_neg (by rintro ⟨_, h⟩; exact absurd h (by decide)), if_neg (by decide), if_neg (by decide), if_pos (by rfl), h, List.length_cons]
  congr 1; push_cast; omega
theorem cntL_43 : ∀ (l : List ByteArray) (came : Bool) (an bn : Int) (R : List ByteArray), cntL came an bn (sgs 43 l ++ R) = cntL (if l = [] then came else true) an (bn + l.length) R
 | [], came, an, bn, R => by simp [sgs]
 | s :: l, came, an, bn, R => by
  have h := cntL_43 l true an (bn + 1) R
  show cntL came an bn (sg 43 s :: (sgs 43 l ++ R)) = _
  rw [cntL, if_neg (sg_toList _ _), sg_bt, if_neg (by rintro ⟨h, _⟩; exact absurd h (by decide)), if_neg (by decide), if_pos (by rfl), h]
  simp only [ite_self, if_neg (show ¬ (s :: l = []) by simp), List.length_cons]
  congr 1; push_cast; omega
theorem cntL_blk : ∀ (bs : List Blk) (t : List ByteArray) (f came : Bool) (an bn : Int), BOk f bs → (f = true → came = false) →
  cntL came an bn (blkLines bs t) = (an + oldN bs + t.length, bn + newN bs + t.length, true)
 | [], t, f, came, an, bn, h, hf => by
  have e := cntL_32 t came an bn []
  rw [List.append_nil] at e
  simp only [blkLines, e, cntL, oldN, newN]
  congr 1
  ·push_cast; omega
  ·congr 1; push_cast; omega
 | b :: bs, t, f, came, an, bn, h, hf => by
  have hc : (if b.k = [] then came else false) = false := by
   by_cases hk : b.k = []
   ·rw [if_pos hk]
    rcases h.2.1 with h1 | h1
    ·exact hf h1
    ·exact absurd hk h1
   ·rw [if_neg hk]
  rw [blkLines, cntL_32, hc, cntL_45, cntL_43, cntL_blk bs t false _ _ _ h.2.2 (by simp)]
  simp only [oldN, newN]
  congr 1
  ·push_cast; omega
  ·congr 1; push_cast; omega
theorem HRight_ev (A An B Bn : Int) (l : List ByteArray) (hn : l.length ≤ 1099511627776) :
  Ev (fun k => hunk_Right.f k A An B Bn l) (decide ((cntL false 0 0 l).2.2 = true ∧ 0 ≤ A ∧ 0 ≤ B ∧ (cntL false 0 0 l).1 = An ∧ (cntL false 0 0 l).2.1 = Bn)) := by
 unfold hunk_Right.f
 refine Ev.bind (count_ev l hn) ?_
 generalize cntL false 0 0 l = c
 by_cases h1 : c.2.2 = true
 ·simp only [if_pos h1]
  by_cases h2 : A ≥ 0
  ·simp only [if_pos h2]
   by_cases h3 : B ≥ 0
   ·simp only [if_pos h3]
    by_cases h4 : c.1 = An
    ·simp only [if_pos h4]
     have e : (c.2.1 == Bn) = decide (c.2.2 = true ∧ 0 ≤ A ∧ 0 ≤ B ∧ c.1 = An ∧ c.2.1 = Bn) := by
      rw [Bool.eq_iff_iff, beq_iff_eq, decide_eq_true_iff]; exact ⟨fun h => ⟨h1, h2, h3, h4, h⟩, fun h => h.2.2.2.2⟩
     rw [e]; exact Ev.now _
    ·simp only [if_neg h4]
     rw [decide_eq_false (fun h => h4 h.2.2.2.1)]; exact Ev.now _
   ·simp only [if_neg h3]
    rw [decide_eq_false (fun h => h3 h.2.2.1)]; exact Ev.now _
  ·simp only [if_neg h2]
   rw [decide_eq_false (fun h => h2 h.2.1)]; exact Ev.now _
 ·simp only [if_neg h1]
  rw [decide_eq_false (fun h => h1 h.1)]; exact Ev.now _
theorem drop_sgs (c : UInt8) (l R : List ByteArray) (n : Nat) (h : n = l.length) : (sgs c l ++ R).drop n = R := by
 subst h; rw [List.drop_append_of_le_length (by rw [sgs_len]; exact Nat.le_refl _), List.drop_of_length_le (by rw [sgs_len]; exact Nat.le_refl _)]; rfl
theorem take_sgs (c : UInt8) (l R : List ByteArray) (n : Nat) (h : n = l.length) : (sgs c l ++ R).take n = sgs c l := by
 subst h; rw [List.take_append_of_le_length (by rw [sgs_len]; exact Nat.le_refl _), List.take_of_length_le (by rw [sgs_len]; exact Nat.le_refl _)]
structure Cut3 (x : List ByteArray) (b : Blk) (R : List ByteArray) : Prop where
 len : 0 < x.length
 n : runLen 32 x = b.k.length
 d : runLen 45 (x.drop b.k.length) = b.d.length
 i : runLen 43 (x.drop (b.k.length + b.d.length)) = b.i.length
 tk : x.take b.k.length = sgs 32 b.k
 td : (x.take (b.k.length + b.d.length)).drop b.k.length = sgs 45 b.d
 ti : (x.take (b.k.length + b.d.length + b.i.length)).drop (b.k.length + b.d.length) = sgs 43 b.i
 tr : x.drop (b.k.length + b.d.length + b.i.length) = R
 le : b.k.length + b.d.length + b.i.length ≤ x.length
theorem cut3_parts (b : Blk) (R : List ByteArray) (hl : 0 < (sgs 32 b.k ++ (sgs 45 b.d ++ (sgs 43 b.i ++ R))).length)
  (h1 : runLen 32 (sgs 32 b.k ++ (sgs 45 b.d ++ (sgs 43 b.i ++ R))) = b.k.length) (h2 : runLen 45 (sgs 45 b.d ++ (sgs 43 b.i ++ R)) = b.d.length) (h3 : runLen 43 (sgs 43 b.i ++ R) = b.i.length) :
  Cut3 (sgs 32 b.k ++ (sgs 45 b.d ++ (sgs 43 b.i ++ R))) b R := by
 have d1 := drop_sgs 32 b.k (sgs 45 b.d ++ (sgs 43 b.i ++ R)) _ rfl
 have d2 := drop_sgs 45 b.d (sgs 43 b.i ++ R) _ rfl
 have d3 := drop_sgs 43 b.i R _ rfl
 refine ⟨hl, h1, by rw [d1]; exact h2, by rw [← List.drop_drop, d1, d2]; exact h3, take_sgs _ _ _ _ rfl, ?_, ?_, ?_, ?_⟩
 ·rw [List.drop_take, d1, show b.k.length + b.d.length - b.k.length = b.d.length by omega, take_sgs _ _ _ _ rfl]
 ·rw [List.drop_take, ← List.drop_drop, d1, d2, show b.k.length + b.d.length + b.i.length - (b.k.length + b.d.length) = b.i.length by omega, take_sgs _ _ _ _ rfl]
 ·rw [Nat.add_assoc, ← List.drop_drop, d1, ← List.drop_drop, d2, d3]
 ·simp only [List.length_append, sgs_len]; omega
theorem cut3_blk (f : Bool) (b : Blk) (bs : List Blk) (t : List ByteArray) (h : BOk f (b :: bs)) : Cut3 (blkLines (b :: bs) t) b (blkLines bs t) := by
 have h1 := run_32 f b bs t h
 rw [blkLines] at h1 ⊢
 refine cut3_parts b _ ?_ h1 (run_45 f b bs t h) (run_43 f b bs t h)
 simp only [List.length_append, sgs_len]
 rcases h.1 with h2 | h2
 ·have := List.length_pos_iff.2 h2; omega
 ·have := List.length_pos_iff.2 h2; omega
theorem cut3_end (s : ByteArray) (t : List ByteArray) : Cut3 (blkLines [] (s :: t)) ⟨s :: t, [], []⟩ [] := by
 have h := cut3_parts ⟨s :: t, [], []⟩ [] (by simp [sgs]) (by
  show runLen 32 (sgs 32 (s :: t) ++ []) = _
  rw [runLen_same 32 32 rfl]; rfl) rfl rfl
 simpa [blkLines, sgs] using h
theorem Turn_cut (x R : List ByteArray) (b : Blk) (hx : x.length ≤ 1099511627776) (hs : ∀ s ∈ x, 1 ≤ s.size) (hz : ∀ s ∈ b.d ++ b.i, s.size ≤ 4611686018427387904) (h : Cut3 x b R) (q0 q1 q2 q3 : Int) (out : List ByteArray) (ho : out.length + x.length ≤ 4398046511104) (r : Int × Int × Int × Int × List ByteArray)
  (rest : Ev (fun k => hunk_Turn.l0 k R q0 q1 q2 q3 (out ++ (sgs 32 b.k ++ (sgs 45 b.i ++ sgs 43 b.d)))) r) : Ev (fun k => hunk_Turn.l0 k x q0 q1 q2 q3 out) r := by
 refine Ev.step (fun _ => hunk_Turn.l0.eq_2 ..) ?_
 have hle := h.le
 simp only [if_pos (show (x.length : Int) > 0 by have := h.len; omega)]
 have hsd : ∀ n, ∀ s ∈ x.drop n, 1 ≤ s.size := fun n s hm => hs s (List.mem_of_mem_drop hm)
 have hsg : ∀ (c : UInt8) (l : List ByteArray), ∀ s ∈ sgs c l, 1 ≤ s.size := fun c l s hm => by
  simp only [sgs, List.mem_map] at hm
  obtain ⟨y, _, rfl⟩ := hm
  rw [sg_size]; omega
 refine Ev.bind (run_ev x 32 hs (by omega)) ?_
 rw [h.n]
 simp only [if_pos (show 0 ≤ (b.k.length : Int) by omega), if_pos (show (b.k.length : Int) ≤ (x.length : Int) by omega), Int.toNat_natCast]
 refine Ev.bind (run_ev _ 45 (hsd _) (by rw [List.length_drop]; omega)) ?_
 rw [h.d]
 have w1 : wrap64 ((b.k.length : Int) + (b.d.length : Int)) = ((b.k.length + b.d.length : Nat) : Int) := by rw [w_in (by omega) (by omega)]; push_cast; rfl
 have w2 : wrap64 (((b.k.length + b.d.length : Nat) : Int) + (b.i.length : Int)) = ((b.k.length + b.d.length + b.i.length : Nat) : Int) := by rw [w_in (by omega) (by omega)]; push_cast; rfl
 simp only [w1, if_pos (show 0 ≤ ((b.k.length + b.d.length : Nat) : Int) by omega), if_pos (show ((b.k.length + b.d.length : Nat) : Int) ≤ (x.length : Int) by omega), Int.toNat_natCast]
 refine Ev.bind (run_ev _ 43 (hsd _) (by rw [List.length_drop]; omega)) ?_
 rw [h.i]
 simp only [w2, if_pos (show ((b.k.length + b.d.length : Nat) : Int) ≤ ((b.k.length + b.d.length + b.i.length : Nat) : Int) by omega), if_pos (show ((b.k.length + b.d.length + b.i.length : Nat) : Int) ≤ (x.length : Int) by omega), Int.toNat_natCast]
 rw [h.ti]
 refine Ev.bind (bare_ev _ (hsg 43 b.i) (by rw [sgs_len]; omega)) ?_
 rw [sgs_map_tl]
 refine Ev.bind (signed_ev 45 45 enc45 b.i (fun s hm => hz s (List.mem_append_right _ hm)) (by omega)) ?_
 simp only [if_pos (show (b.k.length : Int) ≤ ((b.k.length + b.d.length : Nat) : Int) by omega)]
 rw [h.td]
 refine Ev.bind (bare_ev _ (hsg 45 b.d) (by rw [sgs_len]; omega)) ?_
 rw [sgs_map_tl]
 refine Ev.bind (signed_ev 43 43 enc43 b.d (fun s hm => hz s (List.mem_append_left _ hm)) (by omega)) ?_
 rw [h.tk, h.tr]
 have hf : ([out, sgs 32 b.k, sgs 45 b.i, sgs 43 b.d] : List (List ByteArray)).flatten = out ++ (sgs 32 b.k ++ (sgs 45 b.i ++ sgs 43 b.d)) := by simp
 simp only [slices_Concat_string_string.f, hf]
 rw [if_pos (by simp only [List.length_append, sgs_len]; omega)]
 simp only [Option.bind_some, if_pos (show 0 ≤ ((b.k.length + b.d.length + b.i.length : Nat) : Int) by omega)]
 exact rest
def blkBig : List Blk → Prop
 | [] => True
 | b :: bs => (∀ s ∈ b.d ++ b.i, s.size ≤ 4611686018427387904) ∧ blkBig bs
theorem Turn_blk (q0 q1 q2 q3 : Int) : ∀ (bs : List Blk) (t : List ByteArray) (f : Bool) (out : List ByteArray), BOk f bs → blkBig bs → oldN bs + newN bs + t.length ≤ 1099511627776 → out.length + (oldN bs + newN bs + t.length) ≤ 4398046511104 →
  Ev (fun k => hunk_Turn.l0 k (blkLines bs t) q0 q1 q2 q3 out) (q0, q1, q2, q3, out ++ blkLines (bs.map swapB) t)
 | [], [], f, out, h, hb, h2, h3 => by
  refine Ev.step (fun _ => hunk_Turn.l0.eq_2 ..) ?_
  simp [blkLines, sgs]
  exact Ev.now _
 | [], s :: t, f, out, h, hb, h2, h3 => by
  have hl := blkLines_len [] (s :: t)
  simp only [oldN, newN] at h2 h3 hl
  refine Turn_cut _ _ _ (by omega) (blkLines_size _ _) (by simp) (cut3_end s t) q0 q1 q2 q3 out (by omega) _ ?_
  refine Ev.step (fun _ => hunk_Turn.l0.eq_2 ..) ?_
  simp [blkLines, sgs]
  exact Ev.now _
 | b :: bs, t, f, out, h, hb, h2, h3 => by
  have hl := blkLines_len (b :: bs) t
  simp only [oldN, newN] at h2 h3 hl
  refine Turn_cut _ _ _ (by omega) (blkLines_size _ _) hb.1 (cut3_blk f b bs t h) q0 q1 q2 q3 out (by omega) _ ?_
  have ih := Turn_blk q0 q1 q2 q3 bs t false (out ++ (sgs 32 b.k ++ (sgs 45 b.i ++ sgs 43 b.d))) h.2.2 hb.2 (by omega) (by simp only [List.length_append, sgs_len]; omega)
  simp only [List.map_cons, blkLines, swapB]
  simpa [List.append_assoc] using ih
theorem HTurn_ev (A An B Bn : Int) (bs : List Blk) (t : List ByteArray) (h : BOk true bs) (hb : blkBig bs) (h2 : oldN bs + newN bs + t.length ≤ 1099511627776) :
  Ev (fun k => hunk_Turn.f k A An B Bn (blkLines bs t)) (B, Bn, A, An, blkLines (bs.map swapB) t) := by
 have e := Turn_blk B Bn A An bs t true [] h hb h2 (by simp; omega)
 exact e
end Go.Proofs.Ytoaijganmfijmaa.Pr
-- shrunk
/-
grapevineref04.Same's contract: it answers whether two lists of edits are one.
-/
namespace Go.Proofs.Ytoaijganmfijmaa.Pr
open Go.RowKit Go.Proofs.YtoaijganmfijmaaW.PrintWords Go.Proofs.YtoaijganmfijmaaW.PrintLast Go.Proofs.YtoaijganmfijmaaW.PrintMore
set_option linter.unusedVariables false
set_option linter.unusedSimpArgs false
instance edDec : DecidableEq Ed := fun a b => decidable_of_iff (a.f0 = b.f0 ∧ a.f1 = b.f1 ∧ a.f2 = b.f2) ⟨fun h => by cases a; cases b; obtain ⟨h1, h2, h3⟩ := h; cases h1; cases h2; cases h3; rfl, fun h => by subst h; exact ⟨rfl, rfl, rfl⟩⟩
def Ok40 (l : List Ed) : Prop := l.length ≤ 1099511627776 ∧ ∀ e ∈ l, e.f2.length ≤ 1099511627776
instance (l : List Ed) : Decidable (Ok40 l) := by unfold Ok40; infer_instance
def grapevineref04_Same.f (l0 l1 : List Ed) : Option Bool := if Ok40 l0 then some (decide (l0 = l1)) else none
end Go.Proofs.Ytoaijganmfijmaa.Pr
-- shrunk
-- written by a program of this session's (a turned copy of the kit's printer); Lean checks it
namespace Go.Proofs.Ytoaijganmfijmaa.Pr
open Go.RowKit Go.Proofs.YtoaijganmfijmaaW.PrintWords Go.Proofs.YtoaijganmfijmaaW.PrintLast Go.Proofs.YtoaijganmfijmaaW.PrintMore
attribute [local go_sem] max2_int min2_int max_two min_two max_three min_three max_four min_four   -- for this text's walks alone
set_option linter.unusedVariables false
set_option linter.unusedSimpArgs false

def diff_Right.l0 : Nat → Int → Int → List (S53) → Int → Int → Option (Bool)
 | 0, _, _, _, _, _ => none
 | k + 1, x0, x5, x8, x9, x10 => if x10 < x9 then (if 0 ≤ x10 then (if x10 < (x8.length : Int) then (if ((rd_T53 x8 x10).f0) < x5 then (some false) else (if ((rd_T53 x8 x10).f1) < 0 then (some false) else (if ((rd_T53 x8 x10).f0) > x0 then (some false) else (if ((rd_T53 x8 x10).f1) > (wrap64 (x0 - ((rd_T53 x8 x10).f0))) then (some false) else (if ((rd_T53 x8 x10).f1) = 0 then (if (((rd_T53 x8 x10).f2).length : Int) = 0 then (some false) else (diff_Right.l0 k x0 (wrap64 ((wrap64 (((rd_T53 x8 x10).f0) + ((rd_T53 x8 x10).f1))) + 1)) x8 x9 (wrap64 (x10 + 1)))) else (diff_Right.l0 k x0 (wrap64 ((wrap64 (((rd_T53 x8 x10).f0) + ((rd_T53 x8 x10).f1))) + 1)) x8 x9 (wrap64 (x10 + 1)))))))) else (none)) else (none)) else (some true)
def diff_Right.f (k : Nat) (a0 : Int) (l1 : List (S53)) : Option (Bool) := diff_Right.l0 k a0 0 l1 (l1.length : Int) 0
theorem diff_Right.mono_l : ∀ k, (∀ y0 y1 y2 y3 y4, LeO (diff_Right.l0 k y0 y1 y2 y3 y4) (diff_Right.l0 (k + 1) y0 y1 y2 y3 y4))
 | 0 => fun _ _ _ _ _ r h => by simp [diff_Right.l0] at h
 | k + 1 => by
  have ih0 := diff_Right.mono_l k
  ·intro y0 y1 y2 y3 y4
   unfold diff_Right.l0
   repeat' first
   | (with_reducible exact ih0 _ _ _ _ _)
   | (with_reducible exact LeO.refl _)
   | (with_reducible exact LeO.none _)
   | (with_reducible refine LeO.ite ?_ ?_)
   | (with_reducible refine LeO.bind ?_ (fun _ => ?_))
   | exact ih0 _ _ _ _ _
   | exact LeO.none _
   | refine LeO.ite ?_ ?_
   | refine LeO.bind ?_ (fun _ => ?_)
theorem diff_Right.mono : ∀ a0 a1 k, LeO (diff_Right.f k a0 a1) (diff_Right.f (k + 1) a0 a1) := by
 intro a0 a1 k
 have ih0 := diff_Right.mono_l k
 unfold diff_Right.f
 repeat' first
   | (with_reducible exact ih0 _ _ _ _ _)
   | (with_reducible exact LeO.refl _)
   | (with_reducible exact LeO.none _)
   | (with_reducible refine LeO.ite ?_ ?_)
   | (with_reducible refine LeO.bind ?_ (fun _ => ?_))
   | exact ih0 _ _ _ _ _
   | exact LeO.none _
   | refine LeO.ite ?_ ?_
   | refine LeO.bind ?_ (fun _ => ?_)
set_option maxHeartbeats 8000000 in
set_option maxRecDepth 100000 in
theorem diff_Right.calls (k : Nat) (a0 : Int) (A1 : Option Addr) (c1 : Nat) (l1 : List (S53)) (r : Bool) (w : World) (hr1 : Kd.C k53 w A1 l1.length l1) (hc1 : l1.length ≤ c1) (h : diff_Right.f k a0 l1 = some r) :
  Calls Try.prog 42 #[.int .i64 a0, .slice A1 l1.length c1] w fun e w' => e = .returned (.bool r) ∧ Below w.heap.size w w' := by
 have hu53 := Try.underlying53
 have HR1 := Aside0.mk hr1
 have HC1 := Aside0.mk hc1
 clear hr1 hc1
 have HB := Aside0.mk (Below.refl w.heap.size w)
 have H : (diff_Right.l0 k a0 0 l1 (l1.length : Int) 0) = some r := h
 clear h
 have H' := Aside0.mk H
 clear H
 go_enter Try.func42, Try.ntmps42
 go_wp2
 go_loopg [5, 10] k (fun kq v5 v10 w' => ∃ (x5_1 : Int) (x10_1 : Int), v5 = .int .i64 x5_1 ∧ v10 = .int .i64 x10_1 ∧ Aside0 (diff_Right.l0 kq a0 x5_1 l1 (l1.length : Int) x10_1 = some r) ∧ Aside0 (kq ≤ k) ∧ Aside0 (Below w.heap.size w w'))
 case atStart => exact ⟨(0), (0), (by first | rfl | (simp; done) | (simp [*]; done)), (by first | rfl | (simp; done) | (simp [*]; done)), H', ⟨Nat.le_refl _⟩, ⟨by repeat (first | (with_reducible first | exact HB.out | apply below_alloc | apply pw_below_drewN | apply below_drew1) | exact HB.out)⟩⟩
 case round =>
  clear H'
  try clear c1
  try clear p2
  obtain ⟨x5_1, x10_1, rfl, rfl, HA, HK1, HB⟩ := hrel
  cases gk with
  | zero => exact absurd HA.out (by simp [diff_Right.l0])
  | succ k1 =>
   have H := HA.out
   clear HA
   simp only [diff_Right.l0] at H
   by_cases c3 : x10_1 < (l1.length : Int)
   ·rw [if_pos c3] at H
    have c3b0 : decide (x10_1 < (l1.length : Int)) = true := decide_eq_true c3
    clear c3
    by_cases c4 : 0 ≤ x10_1
    ·rw [if_pos c4] at H
     have c4b0 : decide (0 ≤ x10_1) = true := decide_eq_true c4
     clear c4
     by_cases c5 : x10_1 < (l1.length : Int)
     ·rw [if_pos c5] at H
      have c5b0 : decide (x10_1 < (l1.length : Int)) = true := decide_eq_true c5
      clear c5
      by_cases c6 : ((rd_T53 l1 x10_1).f0) < x5_1
      ·rw [if_pos c6] at H
       have c6b0 : decide (((rd_T53 l1 x10_1).f0) < x5_1) = true := decide_eq_true c6
       clear c6
       obtain rfl := Option.some.inj H
       have p196 : 0 ≤ (x10_1 : Int) := of_decide_eq_true (by first | (with_reducible assumption) | assumption)
       have q196 : x10_1 < (l1.length : Int) := of_decide_eq_true (by first | (with_reducible assumption) | assumption)
       obtain ⟨ad196, A196_2, c196_2, e196, hx196_0, hx196_1, hx196_2, hl196_2, hi196_2⟩ := at_T53 HR1.out x10_1 p196 q196
       cases e196
       replace hx196_0 := (HB.out.cell (World.block_lt_of_cell? w _ hx196_0)).trans hx196_0
       replace hx196_1 := (HB.out.cell (World.block_lt_of_cell? w _ hx196_1)).trans hx196_1
       replace hx196_2 := (HB.out.cell (World.block_lt_of_cell? w _ hx196_2)).trans hx196_2
       have HR196_2 := Aside0.mk hi196_2
       have HC196_2 := Aside0.mk hl196_2
       clear hi196_2 hl196_2
       replace p196 := eq_true p196
       replace q196 := eq_true q196
       go_wp2_with (((with_reducible refine gate_dst (N := 7) rfl ?_); (try (refine gate_guard (by rfl) ?_; dsimp only)); refine box_event ?hg (N := 7) ?hd (cs := #[.int .i64 0, .int .i64 0, .slice none 0 0]) (t := 53) ?hr ?_; (case hd => rfl); (case hg => rfl); (case hr => first | (go_simp; done) | (go_simp; rfl)); intro gb197 hg w7 hbox hb; have n0_ := Aside0.mk (below_step (by repeat (first | (with_reducible first | exact HB.out | apply below_alloc | apply pw_below_drewN | apply below_drew1) | exact HB.out)) hb); have n1_ := Aside0.mk (hbox); have n2_ := Aside0.mk ((by rw [hg]; exact (below_size (by repeat (first | (with_reducible first | exact HB.out | apply below_alloc | apply pw_below_drewN | apply below_drew1) | exact HB.out))) : w.heap.size ≤ gb197)); have n3_ := Aside0.mk ((by rw [hg]; exact (below_size (by repeat (first | (with_reducible first | exact HB.out | apply below_alloc | apply pw_below_drewN | apply below_drew1) | exact HB.out))) : w.heap.size ≤ gb197)); clear HB; have HB := n0_; have BK197 := n1_; have GW197 := n2_; have GE197 := n3_; clear n0_ n1_ n2_ n3_; clear hb hbox hg; have hcz8_0 : w7.cell? ⟨gb197, 0, none⟩ = some (.int .i64 0) := (blk_cell BK197.out 0).trans rfl; have hcz8_1 : w7.cell? ⟨gb197, 1, none⟩ = some (.int .i64 0) := (blk_cell BK197.out 1).trans rfl; have hcz8_2 : w7.cell? ⟨gb197, 2, none⟩ = some (.slice none 0 0) := (blk_cell BK197.out 2).trans rfl; have hfz8_0 := blk_frozen BK197.out 0; have hfz8_1 := blk_frozen BK197.out 1; have hfz8_2 := blk_frozen BK197.out 2))
       go_ret
       exact ⟨by first | rfl | (simp [errW_none, errW_some] <;> rfl) | (simp [*, errW_none, errW_some] <;> rfl), by repeat (first | (with_reducible first | exact HB.out | apply below_alloc | apply pw_below_drewN | apply below_drew1 | refine below_set ?_ GE197.out) | exact HB.out)⟩
      ·rw [if_neg c6] at H
       have c6b0 : decide (((rd_T53 l1 x10_1).f0) < x5_1) = false := decide_eq_false c6
       clear c6
       by_cases c9 : ((rd_T53 l1 x10_1).f1) < 0
       ·rw [if_pos c9] at H
        have c9b0 : decide (((rd_T53 l1 x10_1).f1) < 0) = true := decide_eq_true c9
        clear c9
        obtain rfl := Option.some.inj H
        have p196 : 0 ≤ (x10_1 : Int) := of_decide_eq_true (by first | (with_reducible assumption) | assumption)
        have q196 : x10_1 < (l1.length : Int) := of_decide_eq_true (by first | (with_reducible assumption) | assumption)
        obtain ⟨ad196, A196_2, c196_2, e196, hx196_0, hx196_1, hx196_2, hl196_2, hi196_2⟩ := at_T53 HR1.out x10_1 p196 q196
        cases e196
        replace hx196_0 := (HB.out.cell (World.block_lt_of_cell? w _ hx196_0)).trans hx196_0
        replace hx196_1 := (HB.out.cell (World.block_lt_of_cell? w _ hx196_1)).trans hx196_1
        replace hx196_2 := (HB.out.cell (World.block_lt_of_cell? w _ hx196_2)).trans hx196_2
        have HR196_2 := Aside0.mk hi196_2
        have HC196_2 := Aside0.mk hl196_2
        clear hi196_2 hl196_2
        replace p196 := eq_true p196
        replace q196 := eq_true q196
        go_wp2_with (((with_reducible refine gate_dst (N := 7) rfl ?_); (try (refine gate_guard (by rfl) ?_; dsimp only)); refine box_event ?hg (N := 7) ?hd (cs := #[.int .i64 0, .int .i64 0, .slice none 0 0]) (t := 53) ?hr ?_; (case hd => rfl); (case hg => rfl); (case hr => first | (go_simp; done) | (go_simp; rfl)); intro gb197 hg w10 hbox hb; have n0_ := Aside0.mk (below_step (by repeat (first | (with_reducible first | exact HB.out | apply below_alloc | apply pw_below_drewN | apply below_drew1) | exact HB.out)) hb); have n1_ := Aside0.mk (hbox); have n2_ := Aside0.mk ((by rw [hg]; exact (below_size (by repeat (first | (with_reducible first | exact HB.out | apply below_alloc | apply pw_below_drewN | apply below_drew1) | exact HB.out))) : w.heap.size ≤ gb197)); have n3_ := Aside0.mk ((by rw [hg]; exact (below_size (by repeat (first | (with_reducible first | exact HB.out | apply below_alloc | apply pw_below_drewN | apply below_drew1) | exact HB.out))) : w.heap.size ≤ gb197)); clear HB; have HB := n0_; have BK197 := n1_; have GW197 := n2_; have GE197 := n3_; clear n0_ n1_ n2_ n3_; clear hb hbox hg; have hcz11_0 : w10.cell? ⟨gb197, 0, none⟩ = some (.int .i64 0) := (blk_cell BK197.out 0).trans rfl; have hcz11_1 : w10.cell? ⟨gb197, 1, none⟩ = some (.int .i64 0) := (blk_cell BK197.out 1).trans rfl; have hcz11_2 : w10.cell? ⟨gb197, 2, none⟩ = some (.slice none 0 0) := (blk_cell BK197.out 2).trans rfl; have hfz11_0 := blk_frozen BK197.out 0; have hfz11_1 := blk_frozen BK197.out 1; have hfz11_2 := blk_frozen BK197.out 2))
        go_ret
        exact ⟨by first | rfl | (simp [errW_none, errW_some] <;> rfl) | (simp [*, errW_none, errW_some] <;> rfl), by repeat (first | (with_reducible first | exact HB.out | apply below_alloc | apply pw_below_drewN | apply below_drew1 | refine below_set ?_ GE197.out) | exact HB.out)⟩
       ·rw [if_neg c9] at H
        have c9b0 : decide (((rd_T53 l1 x10_1).f1) < 0) = false := decide_eq_false c9
        clear c9
        by_cases c12 : ((rd_T53 l1 x10_1).f0) > a0
        ·rw [if_pos c12] at H
         have c12b0 : decide (a0 < ((rd_T53 l1 x10_1).f0)) = true := decide_eq_true c12
         clear c12
         obtain rfl := Option.some.inj H
         have p196 : 0 ≤ (x10_1 : Int) := of_decide_eq_true (by first | (with_reducible assumption) | assumption)
         have q196 : x10_1 < (l1.length : Int) := of_decide_eq_true (by first | (with_reducible assumption) | assumption)
         obtain ⟨ad196, A196_2, c196_2, e196, hx196_0, hx196_1, hx196_2, hl196_2, hi196_2⟩ := at_T53 HR1.out x10_1 p196 q196
         cases e196
         replace hx196_0 := (HB.out.cell (World.block_lt_of_cell? w _ hx196_0)).trans hx196_0
         replace hx196_1 := (HB.out.cell (World.block_lt_of_cell? w _ hx196_1)).trans hx196_1
         replace hx196_2 := (HB.out.cell (World.block_lt_of_cell? w _ hx196_2)).trans hx196_2
         have HR196_2 := Aside0.mk hi196_2
         have HC196_2 := Aside0.mk hl196_2
         clear hi196_2 hl196_2
         replace p196 := eq_true p196
         replace q196 := eq_true q196
         go_wp2_with (((with_reducible refine gate_dst (N := 7) rfl ?_); (try (refine gate_guard (by rfl) ?_; dsimp only)); refine box_event ?hg (N := 7) ?hd (cs := #[.int .i64 0, .int .i64 0, .slice none 0 0]) (t := 53) ?hr ?_; (case hd => rfl); (case hg => rfl); (case hr => first | (go_simp; done) | (go_simp; rfl)); intro gb197 hg w13 hbox hb; have n0_ := Aside0.mk (below_step (by repeat (first | (with_reducible first | exact HB.out | apply below_alloc | apply pw_below_drewN | apply below_drew1) | exact HB.out)) hb); have n1_ := Aside0.mk (hbox); have n2_ := Aside0.mk ((by rw [hg]; exact (below_size (by repeat (first | (with_reducible first | exact HB.out | apply below_alloc | apply pw_below_drewN | apply below_drew1) | exact HB.out))) : w.heap.size ≤ gb197)); have n3_ := Aside0.mk ((by rw [hg]; exact (below_size (by repeat (first | (with_reducible first | exact HB.out | apply below_alloc | apply pw_below_drewN | apply below_drew1) | exact HB.out))) : w.heap.size ≤ gb197)); clear HB; have HB := n0_; have BK197 := n1_; have GW197 := n2_; have GE197 := n3_; clear n0_ n1_ n2_ n3_; clear hb hbox hg; have hcz14_0 : w13.cell? ⟨gb197, 0, none⟩ = some (.int .i64 0) := (blk_cell BK197.out 0).trans rfl; have hcz14_1 : w13.cell? ⟨gb197, 1, none⟩ = some (.int .i64 0) := (blk_cell BK197.out 1).trans rfl; have hcz14_2 : w13.cell? ⟨gb197, 2, none⟩ = some (.slice none 0 0) := (blk_cell BK197.out 2).trans rfl; have hfz14_0 := blk_frozen BK197.out 0; have hfz14_1 := blk_frozen BK197.out 1; have hfz14_2 := blk_frozen BK197.out 2))
         go_ret
         exact ⟨by first | rfl | (simp [errW_none, errW_some] <;> rfl) | (simp [*, errW_none, errW_some] <;> rfl), by repeat (first | (with_reducible first | exact HB.out | apply below_alloc | apply pw_below_drewN | apply below_drew1 | refine below_set ?_ GE197.out) | exact HB.out)⟩
        ·rw [if_neg c12] at H
         have c12b0 : decide (a0 < ((rd_T53 l1 x10_1).f0)) = false := decide_eq_false c12
         clear c12
         by_cases c15 : ((rd_T53 l1 x10_1).f1) > (wrap64 (a0 - ((rd_T53 l1 x10_1).f0)))
         ·rw [if_pos c15] at H
          have c15b0 : decide ((wrap64 (a0 - ((rd_T53 l1 x10_1).f0))) < ((rd_T53 l1 x10_1).f1)) = true := decide_eq_true c15
          clear c15
          obtain rfl := Option.some.inj H
          have p196 : 0 ≤ (x10_1 : Int) := of_decide_eq_true (by first | (with_reducible assumption) | assumption)
          have q196 : x10_1 < (l1.length : Int) := of_decide_eq_true (by first | (with_reducible assumption) | assumption)
          obtain ⟨ad196, A196_2, c196_2, e196, hx196_0, hx196_1, hx196_2, hl196_2, hi196_2⟩ := at_T53 HR1.out x10_1 p196 q196
          cases e196
          replace hx196_0 := (HB.out.cell (World.block_lt_of_cell? w _ hx196_0)).trans hx196_0
          replace hx196_1 := (HB.out.cell (World.block_lt_of_cell? w _ hx196_1)).trans hx196_1
          replace hx196_2 := (HB.out.cell (World.block_lt_of_cell? w _ hx196_2)).trans hx196_2
          have HR196_2 := Aside0.mk hi196_2
          have HC196_2 := Aside0.mk hl196_2
          clear hi196_2 hl196_2
          replace p196 := eq_true p196
          replace q196 := eq_true q196
          go_wp2_with (((with_reducible refine gate_dst (N := 7) rfl ?_); (try (refine gate_guard (by rfl) ?_; dsimp only)); refine box_event ?hg (N := 7) ?hd (cs := #[.int .i64 0, .int .i64 0, .slice none 0 0]) (t := 53) ?hr ?_; (case hd => rfl); (case hg => rfl); (case hr => first | (go_simp; done) | (go_simp; rfl)); intro gb197 hg w16 hbox hb; have n0_ := Aside0.mk (below_step (by repeat (first | (with_reducible first | exact HB.out | apply below_alloc | apply pw_below_drewN | apply below_drew1) | exact HB.out)) hb); have n1_ := Aside0.mk (hbox); have n2_ := Aside0.mk ((by rw [hg]; exact (below_size (by repeat (first | (with_reducible first | exact HB.out | apply below_alloc | apply pw_below_drewN | apply below_drew1) | exact HB.out))) : w.heap.size ≤ gb197)); have n3_ := Aside0.mk ((by rw [hg]; exact (below_size (by repeat (first | (with_reducible first | exact HB.out | apply below_alloc | apply pw_below_drewN | apply below_drew1) | exact HB.out))) : w.heap.size ≤ gb197)); clear HB; have HB := n0_; have BK197 := n1_; have GW197 := n2_; have GE197 := n3_; clear n0_ n1_ n2_ n3_; clear hb hbox hg; have hcz17_0 : w16.cell? ⟨gb197, 0, none⟩ = some (.int .i64 0) := (blk_cell BK197.out 0).trans rfl; have hcz17_1 : w16.cell? ⟨gb197, 1, none⟩ = some (.int .i64 0) := (blk_cell BK197.out 1).trans rfl; have hcz17_2 : w16.cell? ⟨gb197, 2, none⟩ = some (.slice none 0 0) := (blk_cell BK197.out 2).trans rfl; have hfz17_0 := blk_frozen BK197.out 0; have hfz17_1 := blk_frozen BK197.out 1; have hfz17_2 := blk_frozen BK197.out 2))
          go_ret
          exact ⟨by first | rfl | (simp [errW_none, errW_some] <;> rfl) | (simp [*, errW_none, errW_some] <;> rfl), by repeat (first | (with_reducible first | exact HB.out | apply below_alloc | apply pw_below_drewN | apply below_drew1 | refine below_set ?_ GE197.out) | exact HB.out)⟩
         ·rw [if_neg c15] at H
          have c15b0 : decide ((wrap64 (a0 - ((rd_T53 l1 x10_1).f0))) < ((rd_T53 l1 x10_1).f1)) = false := decide_eq_false c15
          clear c15
          by_cases c18 : ((rd_T53 l1 x10_1).f1) = 0
          ·rw [if_pos c18] at H
           have c18b0 : (((rd_T53 l1 x10_1).f1) == 0) = true := beq_iff_eq.mpr c18
           have c18b1 : (((rd_T53 l1 x10_1).f1) != 0) = false := bne_eq_false_iff_eq.mpr c18
           clear c18
           by_cases c19 : (((rd_T53 l1 x10_1).f2).length : Int) = 0
           ·rw [if_pos c19] at H
            have c19b0 : ((((rd_T53 l1 x10_1).f2).length : Int) == 0) = true := beq_iff_eq.mpr c19
            have c19b1 : ((((rd_T53 l1 x10_1).f2).length : Int) != 0) = false := bne_eq_false_iff_eq.mpr c19
            clear c19
            obtain rfl := Option.some.inj H
            have p196 : 0 ≤ (x10_1 : Int) := of_decide_eq_true (by first | (with_reducible assumption) | assumption)
            have q196 : x10_1 < (l1.length : Int) := of_decide_eq_true (by first | (with_reducible assumption) | assumption)
            obtain ⟨ad196, A196_2, c196_2, e196, hx196_0, hx196_1, hx196_2, hl196_2, hi196_2⟩ := at_T53 HR1.out x10_1 p196 q196
            cases e196
            replace hx196_0 := (HB.out.cell (World.block_lt_of_cell? w _ hx196_0)).trans hx196_0
            replace hx196_1 := (HB.out.cell (World.block_lt_of_cell? w _ hx196_1)).trans hx196_1
            replace hx196_2 := (HB.out.cell (World.block_lt_of_cell? w _ hx196_2)).trans hx196_2
            have HR196_2 := Aside0.mk hi196_2
            have HC196_2 := Aside0.mk hl196_2
            clear hi196_2 hl196_2
            replace p196 := eq_true p196
            replace q196 := eq_true q196
            go_wp2_with (((with_reducible refine gate_dst (N := 7) rfl ?_); (try (refine gate_guard (by rfl) ?_; dsimp only)); refine box_event ?hg (N := 7) ?hd (cs := #[.int .i64 0, .int .i64 0, .slice none 0 0]) (t := 53) ?hr ?_; (case hd => rfl); (case hg => rfl); (case hr => first | (go_simp; done) | (go_simp; rfl)); intro gb197 hg w20 hbox hb; have n0_ := Aside0.mk (below_step (by repeat (first | (with_reducible first | exact HB.out | apply below_alloc | apply pw_below_drewN | apply below_drew1) | exact HB.out)) hb); have n1_ := Aside0.mk (hbox); have n2_ := Aside0.mk ((by rw [hg]; exact (below_size (by repeat (first | (with_reducible first | exact HB.out | apply below_alloc | apply pw_below_drewN | apply below_drew1) | exact HB.out))) : w.heap.size ≤ gb197)); have n3_ := Aside0.mk ((by rw [hg]; exact (below_size (by repeat (first | (with_reducible first | exact HB.out | apply below_alloc | apply pw_below_drewN | apply below_drew1) | exact HB.out))) : w.heap.size ≤ gb197)); clear HB; have HB := n0_; have BK197 := n1_; have GW197 := n2_; have GE197 := n3_; clear n0_ n1_ n2_ n3_; clear hb hbox hg; have hcz21_0 : w20.cell? ⟨gb197, 0, none⟩ = some (.int .i64 0) := (blk_cell BK197.out 0).trans rfl; have hcz21_1 : w20.cell? ⟨gb197, 1, none⟩ = some (.int .i64 0) := (blk_cell BK197.out 1).trans rfl; have hcz21_2 : w20.cell? ⟨gb197, 2, none⟩ = some (.slice none 0 0) := (blk_cell BK197.out 2).trans rfl; have hfz21_0 := blk_frozen BK197.out 0; have hfz21_1 := blk_frozen BK197.out 1; have hfz21_2 := blk_frozen BK197.out 2))
            go_ret
            exact ⟨by first | rfl | (simp [errW_none, errW_some] <;> rfl) | (simp [*, errW_none, errW_some] <;> rfl), by repeat (first | (with_reducible first | exact HB.out | apply below_alloc | apply pw_below_drewN | apply below_drew1 | refine below_set ?_ GE197.out) | exact HB.out)⟩
           ·rw [if_neg c19] at H
            have c19b0 : ((((rd_T53 l1 x10_1).f2).length : Int) == 0) = false := beq_eq_false_iff_ne.mpr c19
            have c19b1 : ((((rd_T53 l1 x10_1).f2).length : Int) != 0) = true := bne_iff_ne.mpr c19
            have c19b2 : ¬ (((rd_T53 l1 x10_1).f2) = []) := fun h_ => c19 (by rw [h_]; rfl)
            have H' := Aside0.mk H
            clear H
            have p196 : 0 ≤ (x10_1 : Int) := of_decide_eq_true (by first | (with_reducible assumption) | assumption)
            have q196 : x10_1 < (l1.length : Int) := of_decide_eq_true (by first | (with_reducible assumption) | assumption)
            obtain ⟨ad196, A196_2, c196_2, e196, hx196_0, hx196_1, hx196_2, hl196_2, hi196_2⟩ := at_T53 HR1.out x10_1 p196 q196
            cases e196
            replace hx196_0 := (HB.out.cell (World.block_lt_of_cell? w _ hx196_0)).trans hx196_0
            replace hx196_1 := (HB.out.cell (World.block_lt_of_cell? w _ hx196_1)).trans hx196_1
            replace hx196_2 := (HB.out.cell (World.block_lt_of_cell? w _ hx196_2)).trans hx196_2
            have HR196_2 := Aside0.mk hi196_2
            have HC196_2 := Aside0.mk hl196_2
            clear hi196_2 hl196_2
            replace p196 := eq_true p196
            replace q196 := eq_true q196
            go_wp2_with (((with_reducible refine gate_dst (N := 7) rfl ?_); (try (refine gate_guard (by rfl) ?_; dsimp only)); refine box_event ?hg (N := 7) ?hd (cs := #[.int .i64 0, .int .i64 0, .slice none 0 0]) (t := 53) ?hr ?_; (case hd => rfl); (case hg => rfl); (case hr => first | (go_simp; done) | (go_simp; rfl)); intro gb197 hg w22 hbox hb; have n0_ := Aside0.mk (below_step (by repeat (first | (with_reducible first | exact HB.out | apply below_alloc | apply pw_below_drewN | apply below_drew1) | exact HB.out)) hb); have n1_ := Aside0.mk (hbox); have n2_ := Aside0.mk ((by rw [hg]; exact (below_size (by repeat (first | (with_reducible first | exact HB.out | apply below_alloc | apply pw_below_drewN | apply below_drew1) | exact HB.out))) : w.heap.size ≤ gb197)); have n3_ := Aside0.mk ((by rw [hg]; exact (below_size (by repeat (first | (with_reducible first | exact HB.out | apply below_alloc | apply pw_below_drewN | apply below_drew1) | exact HB.out))) : w.heap.size ≤ gb197)); clear HB; have HB := n0_; have BK197 := n1_; have GW197 := n2_; have GE197 := n3_; clear n0_ n1_ n2_ n3_; clear hb hbox hg; have hcz23_0 : w22.cell? ⟨gb197, 0, none⟩ = some (.int .i64 0) := (blk_cell BK197.out 0).trans rfl; have hcz23_1 : w22.cell? ⟨gb197, 1, none⟩ = some (.int .i64 0) := (blk_cell BK197.out 1).trans rfl; have hcz23_2 : w22.cell? ⟨gb197, 2, none⟩ = some (.slice none 0 0) := (blk_cell BK197.out 2).trans rfl; have hfz23_0 := blk_frozen BK197.out 0; have hfz23_1 := blk_frozen BK197.out 1; have hfz23_2 := blk_frozen BK197.out 2))
            go_roundg k1
            case measure => have := HK1.out; omega
            case rel => exact ⟨(wrap64 ((wrap64 (((rd_T53 l1 x10_1).f0) + ((rd_T53 l1 x10_1).f1))) + 1)), (wrap64 (x10_1 + 1)), (by first | rfl | (simp; done) | (simp [*]; done)), (by first | rfl | (simp; done) | (simp [*]; done)), H', ⟨by have := HK1.out; omega⟩, ⟨by repeat (first | (with_reducible first | exact HB.out | apply below_alloc | apply pw_below_drewN | apply below_drew1 | refine below_set ?_ GE197.out) | exact HB.out)⟩⟩
          ·rw [if_neg c18] at H
           have c18b0 : (((rd_T53 l1 x10_1).f1) == 0) = false := beq_eq_false_iff_ne.mpr c18
           have c18b1 : (((rd_T53 l1 x10_1).f1) != 0) = true := bne_iff_ne.mpr c18
           have H' := Aside0.mk H
           clear H
           have p196 : 0 ≤ (x10_1 : Int) := of_decide_eq_true (by first | (with_reducible assumption) | assumption)
           have q196 : x10_1 < (l1.length : Int) := of_decide_eq_true (by first | (with_reducible assumption) | assumption)
           obtain ⟨ad196, A196_2, c196_2, e196, hx196_0, hx196_1, hx196_2, hl196_2, hi196_2⟩ := at_T53 HR1.out x10_1 p196 q196
           cases e196
           replace hx196_0 := (HB.out.cell (World.block_lt_of_cell? w _ hx196_0)).trans hx196_0
           replace hx196_1 := (HB.out.cell (World.block_lt_of_cell? w _ hx196_1)).trans hx196_1
           replace hx196_2 := (HB.out.cell (World.block_lt_of_cell? w _ hx196_2)).trans hx196_2
           have HR196_2 := Aside0.mk hi196_2
           have HC196_2 := Aside0.mk hl196_2
           clear hi196_2 hl196_2
           replace p196 := eq_true p196
           replace q196 := eq_true q196
           go_wp2_with (((with_reducible refine gate_dst (N := 7) rfl ?_); (try (refine gate_guard (by rfl) ?_; dsimp only)); refine box_event ?hg (N := 7) ?hd (cs := #[.int .i64 0, .int .i64 0, .slice none 0 0]) (t := 53) ?hr ?_; (case hd => rfl); (case hg => rfl); (case hr => first | (go_simp; done) | (go_simp; rfl)); intro gb197 hg w24 hbox hb; have n0_ := Aside0.mk (below_step (by repeat (first | (with_reducible first | exact HB.out | apply below_alloc | apply pw_below_drewN | apply below_drew1) | exact HB.out)) hb); have n1_ := Aside0.mk (hbox); have n2_ := Aside0.mk ((by rw [hg]; exact (below_size (by repeat (first | (with_reducible first | exact HB.out | apply below_alloc | apply pw_below_drewN | apply below_drew1) | exact HB.out))) : w.heap.size ≤ gb197)); have n3_ := Aside0.mk ((by rw [hg]; exact (below_size (by repeat (first | (with_reducible first | exact HB.out | apply below_alloc | apply pw_below_drewN | apply below_drew1) | exact HB.out))) : w.heap.size ≤ gb197)); clear HB; have HB := n0_; have BK197 := n1_; have GW197 := n2_; have GE197 := n3_; clear n0_ n1_ n2_ n3_; clear hb hbox hg; have hcz25_0 : w24.cell? ⟨gb197, 0, none⟩ = some (.int .i64 0) := (blk_cell BK197.out 0).trans rfl; have hcz25_1 : w24.cell? ⟨gb197, 1, none⟩ = some (.int .i64 0) := (blk_cell BK197.out 1).trans rfl; have hcz25_2 : w24.cell? ⟨gb197, 2, none⟩ = some (.slice none 0 0) := (blk_cell BK197.out 2).trans rfl; have hfz25_0 := blk_frozen BK197.out 0; have hfz25_1 := blk_frozen BK197.out 1; have hfz25_2 := blk_frozen BK197.out 2))
           go_roundg k1
           case measure => have := HK1.out; omega
           case rel => exact ⟨(wrap64 ((wrap64 (((rd_T53 l1 x10_1).f0) + ((rd_T53 l1 x10_1).f1))) + 1)), (wrap64 (x10_1 + 1)), (by first | rfl | (simp; done) | (simp [*]; done)), (by first | rfl | (simp; done) | (simp [*]; done)), H', ⟨by have := HK1.out; omega⟩, ⟨by repeat (first | (with_reducible first | exact HB.out | apply below_alloc | apply pw_below_drewN | apply below_drew1 | refine below_set ?_ GE197.out) | exact HB.out)⟩⟩
     ·rw [if_neg c5] at H
      exact absurd H (by simp)
    ·rw [if_neg c4] at H
     exact absurd H (by simp)
   ·rw [if_neg c3] at H
    have c3b0 : decide (x10_1 < (l1.length : Int)) = false := decide_eq_false c3
    clear c3
    obtain rfl := Option.some.inj H
    go_wp2
    go_ret
    exact ⟨by first | rfl | (simp [errW_none, errW_some] <;> rfl) | (simp [*, errW_none, errW_some] <;> rfl), by repeat (first | (with_reducible first | exact HB.out | apply below_alloc | apply pw_below_drewN | apply below_drew1) | exact HB.out)⟩

end Go.Proofs.Ytoaijganmfijmaa.Pr
-- shrunk
/-
What the printed functions of layer 4 compute, as plain Lean: equality of lists, what is right, sizes.
-/
namespace Go.Proofs.Ytoaijganmfijmaa.Pr
open Go.RowKit Go.Proofs.YtoaijganmfijmaaW.PrintWords Go.Proofs.YtoaijganmfijmaaW.PrintLast Go.Proofs.YtoaijganmfijmaaW.PrintMore
set_option linter.unusedVariables false
set_option linter.unusedSimpArgs false
def okFrom (fr many : Int) : List Ed → Bool
 | [] => true
 | e :: l => decide (fr ≤ e.f0 ∧ 0 ≤ e.f1 ∧ e.f0 ≤ many ∧ e.f1 ≤ many - e.f0 ∧ ¬ (e.f1 = 0 ∧ e.f2 = [])) && okFrom (e.f0 + e.f1 + 1) many l
theorem Right_l0 (many : Int) (l : List Ed) (hm0 : -4611686018427387904 ≤ many) (hm : many ≤ 4611686018427387904) (hn : l.length ≤ 4611686018427387904) : ∀ d i fr, l.length - i = d → i ≤ l.length → 0 ≤ fr →
  Ev (fun k => diff_Right.l0 k many fr l (l.length : Int) (i : Int)) (okFrom fr many (l.drop i)) := by
 intro d
 induction d with
 | zero =>
  intro i fr hd hi hf
  refine Ev.step (fun _ => diff_Right.l0.eq_2 ..) ?_
  simp only [if_neg (show ¬ (i : Int) < (l.length : Int) by omega)]
  rw [List.drop_of_length_le (by omega)]
  exact Ev.now _
 | succ d ih =>
  intro i fr hd hi hf
  refine Ev.step (fun _ => diff_Right.l0.eq_2 ..) ?_
  have h0 : i < l.length := by omega
  rw [List.drop_eq_getElem_cons h0]
  simp only [okFrom, if_pos (show (i : Int) < (l.length : Int) by omega), if_pos (show 0 ≤ (i : Int) by omega), rdE_at h0, w_succ h0 hn]
  have hlen : (l[i].f2.length : Int) = 0 ↔ l[i].f2 = [] := by
   rw [show ((l[i].f2.length : Int) = 0) = (l[i].f2.length = 0) from propext (by omega), List.length_eq_zero_iff]
  by_cases c1 : l[i].f0 < fr
  ·simp only [if_pos c1]
   rw [decide_eq_false (by omega)]
   exact Ev.now _
  simp only [if_neg c1]
  by_cases c2 : l[i].f1 < 0
  ·simp only [if_pos c2]
   rw [decide_eq_false (by omega)]
   exact Ev.now _
  simp only [if_neg c2]
  by_cases c3 : l[i].f0 > many
  ·simp only [if_pos c3]
   rw [decide_eq_false (by omega)]
   exact Ev.now _
  simp only [if_neg c3, w_in (show -9223372036854775808 ≤ many - l[i].f0 by omega) (show many - l[i].f0 ≤ 9223372036854775807 by omega)]
  by_cases c4 : l[i].f1 > many - l[i].f0
  ·simp only [if_pos c4]
   rw [decide_eq_false (by omega)]
   exact Ev.now _
  simp only [if_neg c4, w_in (show -9223372036854775808 ≤ l[i].f0 + l[i].f1 by omega) (show l[i].f0 + l[i].f1 ≤ 9223372036854775807 by omega), w_in (show -9223372036854775808 ≤ l[i].f0 + l[i].f1 + 1 by omega) (show l[i].f0 + l[i].f1 + 1 ≤ 9223372036854775807 by omega), hlen]
  have h := ih (i + 1) (l[i].f0 + l[i].f1 + 1) (by omega) (by omega) (by omega)
  by_cases c5 : l[i].f1 = 0
  ·simp only [if_pos c5]
   by_cases c6 : l[i].f2 = []
   ·simp only [if_pos c6]
    rw [decide_eq_false (by simp [c5, c6])]
    exact Ev.now _
   ·simp only [if_neg c6]
    rw [decide_eq_true ⟨by omega, by omega, by omega, by omega, fun h => c6 h.2⟩, Bool.true_and]
    exact h
  ·simp only [if_neg c5]
   rw [decide_eq_true ⟨by omega, by omega, by omega, by omega, fun h => c5 h.1⟩, Bool.true_and]
   exact h
theorem Right_ev (many : Int) (l : List Ed) (hm0 : -4611686018427387904 ≤ many) (hm : many ≤ 4611686018427387904) (hn : l.length ≤ 4611686018427387904) : Ev (fun k => diff_Right.f k many l) (okFrom 0 many l) := by
 have h := Right_l0 many l hm0 hm hn _ 0 0 rfl (by omega) (by omega)
 simpa [diff_Right.f] using h
def sizeE : List Ed → Int
 | [] => 0
 | e :: l => max 0 e.f1 + (e.f2.length : Int) + sizeE l
theorem sizeE_nonneg : ∀ l, 0 ≤ sizeE l
 | [] => by simp [sizeE]
 | e :: l => by have := sizeE_nonneg l; simp only [sizeE]; omega
end Go.Proofs.Ytoaijganmfijmaa.Pr
-- shrunk
/-
Several plain texts in one.
-/
namespace Go.Proofs.Ytoaijganmfijmaa.Pr
open Go.RowKit Go.Proofs.YtoaijganmfijmaaW.PrintWords Go.Proofs.YtoaijganmfijmaaW.PrintLast Go.Proofs.YtoaijganmfijmaaW.PrintMore
set_option linter.unusedVariables false
set_option linter.unusedSimpArgs false
def insE : List Ed → Nat
 | [] => 0
 | e :: l => e.f2.length + insE l
def playFrom (a : List ByteArray) (t : Nat) : List Ed → List ByteArray
 | [] => a.drop t
 | e :: l => (a.take e.f0.toNat).drop t ++ e.f2 ++ playFrom a (e.f0 + e.f1).toNat l
theorem okFrom_cons {fr many : Int} {e : Ed} {l : List Ed} (h : okFrom fr many (e :: l) = true) :
  fr ≤ e.f0 ∧ 0 ≤ e.f1 ∧ e.f0 ≤ many ∧ e.f1 ≤ many - e.f0 ∧ ¬ (e.f1 = 0 ∧ e.f2 = []) ∧ okFrom (e.f0 + e.f1 + 1) many l = true := by
 simp only [okFrom, Bool.and_eq_true, decide_eq_true_eq] at h
 exact ⟨h.1.1, h.1.2.1, h.1.2.2.1, h.1.2.2.2.1, h.1.2.2.2.2, h.2⟩
end Go.Proofs.Ytoaijganmfijmaa.Pr
-- shrunk
