/-
Several plain texts in one.
-/
import Derived.Test.YtlabiajcohmjhaaGM2
import Derived.Test.YtlabiajcohmjhaaD8b
import Derived.Test.YtlabiajcohmjhaaD3d
import Derived.Test.YtlabiajcohmjhaaD0
namespace Go.Proofs.Ytlabiajcohmjhaa.Pr
open Go.RowKit Go.Proofs.YtlabiajcohmjhaaW.PrintWords Go.Proofs.YtlabiajcohmjhaaW.PrintLast Go.Proofs.YtlabiajcohmjhaaW.PrintMore
set_option linter.unusedVariables false
set_option linter.unusedSimpArgs false
theorem sg_tl (c : UInt8) (s : ByteArray) (h : 0 < s.size) (hb : bt s 0 = (c.toNat : Int)) : sg c (tl s) = s := by
 have h0 : (0 : Int).toNat < s.size := h
 unfold bt at hb
 rw [dif_pos h0] at hb
 have hc : s[(0 : Int).toNat]'h0 = c := UInt8.toNat_inj.1 (by omega)
 have hd : 0 < s.data.size := h
 apply ByteArray.ext
 show (sg c (tl s)).data = s.data
 rw [sg, tl, ByteArray.data_append, ByteArray.data_extract]
 apply Array.ext
 ·simp only [Array.size_append, Array.size_extract]
  show 1 + (min s.data.size s.data.size - 1) = _
  omega
 ·intro i h1 h2
  rw [Array.getElem_append]
  by_cases hi : i < 1
  ·have e : i = 0 := by omega
   subst e
   rw [dif_pos (by show 0 < 1; omega)]
   show c = _
   rw [← hc]
   rfl
  ·rw [dif_neg (by show ¬ i < 1; exact hi), Array.getElem_extract]
   congr 1
   show 1 + (i - 1) = i
   omega
def Suf (came : Bool) (L : List ByteArray) : Prop := ∃ (d i : List ByteArray) (bs : List Blk) (t : List ByteArray), L = sgs 45 d ++ (sgs 43 i ++ blkLines bs t) ∧ BOk false bs ∧ (came = true → d = [])
theorem suf_of : ∀ (L : List ByteArray) (came : Bool) (an bn x y : Int), cntL came an bn L = (x, y, true) → Suf came L
 | [], came, an, bn, x, y, h => ⟨[], [], [], [], rfl, trivial, fun _ => rfl⟩
 | s :: L, came, an, bn, x, y, h => by
  rw [cntL] at h
  by_cases h0 : s.toList = ([] : List UInt8)
  ·rw [if_pos h0] at h; simp at h
  rw [if_neg h0] at h
  have hp := ne_size h0
  by_cases h1 : bt s 0 = 45 ∧ came = true
  ·rw [if_pos h1] at h; simp at h
  rw [if_neg h1] at h
  by_cases b32 : bt s 0 = 32
  ·rw [if_pos b32] at h
   obtain ⟨d, i, bs, t, hL, hB, _⟩ := suf_of L false _ _ _ _ h
   have hs := sg_tl 32 s hp b32
   by_cases he : d = [] ∧ i = []
   ·obtain ⟨rfl, rfl⟩ := he
    have hL' : L = blkLines bs t := hL
    cases bs with
    | nil => exact ⟨[], [], [], tl s :: t, by rw [hL']; show s :: sgs 32 t = sg 32 (tl s) :: sgs 32 t; rw [hs], trivial, fun _ => rfl⟩
    | cons b bs =>
     refine ⟨[], [], ⟨tl s :: b.k, b.d, b.i⟩ :: bs, t, ?_, ⟨hB.1, Or.inr (by simp), hB.2.2⟩, fun _ => rfl⟩
     rw [hL']
     show s :: (sgs 32 b.k ++ _) = sg 32 (tl s) :: (sgs 32 b.k ++ _)
     rw [hs]
   ·refine ⟨[], [], ⟨[tl s], d, i⟩ :: bs, t, ?_, ⟨?_, Or.inr (by simp), hB⟩, fun _ => rfl⟩
    ·rw [hL]
     show s :: _ = sg 32 (tl s) :: _
     rw [hs]
     rfl
    ·by_cases hd : d = []
     ·exact Or.inr (fun hi => he ⟨hd, hi⟩)
     ·exact Or.inl hd
  rw [if_neg b32] at h
  by_cases b43 : bt s 0 = 43
  ·rw [if_pos b43] at h
   obtain ⟨d, i, bs, t, hL, hB, hd⟩ := suf_of L true _ _ _ _ h
   have hs := sg_tl 43 s hp b43
   obtain rfl := hd rfl
   refine ⟨[], tl s :: i, bs, t, ?_, hB, fun _ => rfl⟩
   rw [hL]
   show s :: _ = sg 43 (tl s) :: _
   rw [hs]
   rfl
  rw [if_neg b43] at h
  by_cases b45 : bt s 0 = 45
  ·rw [if_pos b45] at h
   obtain ⟨d, i, bs, t, hL, hB, hd⟩ := suf_of L false _ _ _ _ h
   have hs := sg_tl 45 s hp b45
   refine ⟨tl s :: d, i, bs, t, ?_, hB, fun hc => absurd ⟨b45, hc⟩ h1⟩
   rw [hL]
   show s :: _ = sg 45 (tl s) :: _
   rw [hs]
   rfl
  ·rw [if_neg b45] at h; simp at h
theorem BOk_first (bs : List Blk) (h : BOk false bs) : BOk true bs := by
 cases bs with
 | nil => trivial
 | cons b bs => exact ⟨h.1, Or.inl rfl, h.2.2⟩
theorem right_blocks (L : List ByteArray) (x y : Int) (h : cntL false 0 0 L = (x, y, true)) : ∃ (bs : List Blk) (t : List ByteArray), BOk true bs ∧ L = blkLines bs t := by
 obtain ⟨d, i, bs, t, hL, hB, _⟩ := suf_of L false _ _ _ _ h
 by_cases he : d = [] ∧ i = []
 ·obtain ⟨rfl, rfl⟩ := he
  exact ⟨bs, t, BOk_first bs hB, hL⟩
 ·refine ⟨⟨[], d, i⟩ :: bs, t, ⟨?_, Or.inl rfl, hB⟩, hL⟩
  by_cases hd : d = []
  ·exact Or.inr (fun hi => he ⟨hd, hi⟩)
  ·exact Or.inl hd
theorem blk_big_of (M : Nat) (hM : M ≤ 4611686018427387904) : ∀ (bs : List Blk) (t : List ByteArray), (∀ s ∈ blkLines bs t, s.size ≤ M) → blkBig bs
 | [], t, h => trivial
 | b :: bs, t, h => by
  refine ⟨fun s hs => ?_, blk_big_of M hM bs t (fun s hs => h s (by simp only [blkLines, List.mem_append]; exact Or.inr (Or.inr (Or.inr hs))))⟩
  have key : ∀ c : UInt8, sg c s ∈ blkLines (b :: bs) t → s.size ≤ 4611686018427387904 := fun c hc => by
   have := h _ hc
   rw [sg_size] at this
   omega
  rcases List.mem_append.1 hs with hs | hs
  ·exact key 45 (by simp only [blkLines, List.mem_append]; exact Or.inr (Or.inl (List.mem_map.2 ⟨s, hs, rfl⟩)))
  ·exact key 43 (by simp only [blkLines, List.mem_append]; exact Or.inr (Or.inr (Or.inl (List.mem_map.2 ⟨s, hs, rfl⟩))))
theorem blkLines_len_eq : ∀ (bs : List Blk) (t : List ByteArray), oldN bs + t.length ≤ (blkLines bs t).length ∧ newN bs + t.length ≤ (blkLines bs t).length ∧ bs.length ≤ (blkLines bs t).length + bs.length
 | [], t => by simp [blkLines, sgs_len, oldN, newN]
 | b :: bs, t => by
  have := blkLines_len_eq bs t
  simp only [blkLines, List.length_append, sgs_len, oldN, newN, List.length_cons]; omega
theorem blks_le (f : Bool) : ∀ (bs : List Blk) (t : List ByteArray), BOk f bs → bs.length ≤ (blkLines bs t).length
 | [], t, h => Nat.zero_le _
 | b :: bs, t, h => by
  have ih := blks_le false bs t h.2.2
  simp only [blkLines, List.length_append, sgs_len, List.length_cons]
  rcases h.1 with h1 | h1
  ·have := List.length_pos_iff.2 h1; omega
  ·have := List.length_pos_iff.2 h1; omega
end Go.Proofs.Ytlabiajcohmjhaa.Pr

namespace Go.Proofs.Ytlabiajcohmjhaa.Pr
open Go.RowKit Go.Proofs.YtlabiajcohmjhaaW.PrintWords Go.Proofs.YtlabiajcohmjhaaW.PrintLast Go.Proofs.YtlabiajcohmjhaaW.PrintMore
set_option linter.unusedVariables false
set_option linter.unusedSimpArgs false
def small1 (a0 a1 a2 a3 : Int) (l : List ByteArray) : Bool :=
 decide (l.length ≤ 30 ∧ a0 ≤ 1048576 ∧ a2 ≤ 1048576 ∧ a1 ≤ 1048576 ∧ a3 ≤ 1048576 ∧ -1048576 ≤ a0 ∧ -1048576 ≤ a2 ∧ -1048576 ≤ a1 ∧ -1048576 ≤ a3)
theorem Few1_ev (a0 a1 a2 a3 : Int) (l : List ByteArray) : Ev (fun k => grapevineref05_Few.f k [⟨a0, a1, a2, a3, l⟩]) (small1 a0 a1 a2 a3 l) := by
 unfold grapevineref05_Few.f
 refine Ev.step (fun _ => grapevineref05_Few.l0.eq_2 ..) ?_
 have hr : rd_T33 [(⟨a0, a1, a2, a3, l⟩ : S33)] 0 = ⟨a0, a1, a2, a3, l⟩ := rfl
 have hl : (([(⟨a0, a1, a2, a3, l⟩ : S33)].length : Nat) : Int) = 1 := rfl
 simp only [hr, hl, if_pos (show (0 : Int) < 1 by omega), if_pos (show (0 : Int) ≤ 0 by omega)]
 unfold small1
 by_cases c1 : (l.length : Int) > 30
 ·simp only [if_pos c1]; rw [decide_eq_false (by omega)]; exact Ev.now _
 simp only [if_neg c1]
 by_cases c2 : a0 > 1048576
 ·simp only [if_pos c2]; rw [decide_eq_false (by omega)]; exact Ev.now _
 simp only [if_neg c2]
 by_cases c3 : a2 > 1048576
 ·simp only [if_pos c3]; rw [decide_eq_false (by omega)]; exact Ev.now _
 simp only [if_neg c3]
 by_cases c4 : a1 > 1048576
 ·simp only [if_pos c4]; rw [decide_eq_false (by omega)]; exact Ev.now _
 simp only [if_neg c4]
 by_cases c5 : a3 > 1048576
 ·simp only [if_pos c5]; rw [decide_eq_false (by omega)]; exact Ev.now _
 simp only [if_neg c5]
 by_cases c6 : a0 < (-1048576)
 ·simp only [if_pos c6]; rw [decide_eq_false (by omega)]; exact Ev.now _
 simp only [if_neg c6]
 by_cases c7 : a2 < (-1048576)
 ·simp only [if_pos c7]; rw [decide_eq_false (by omega)]; exact Ev.now _
 simp only [if_neg c7]
 by_cases c8 : a1 < (-1048576)
 ·simp only [if_pos c8]; rw [decide_eq_false (by omega)]; exact Ev.now _
 simp only [if_neg c8]
 by_cases c9 : a3 < (-1048576)
 ·simp only [if_pos c9]; rw [decide_eq_false (by omega)]; exact Ev.now _
 simp only [if_neg c9]
 rw [decide_eq_true (by omega)]
 refine Ev.step (fun _ => grapevineref05_Few.l0.eq_2 ..) ?_
 have w1 : wrap64 (0 + 1) = 1 := w_in (by omega) (by omega)
 simp only [hl, w1, if_neg (show ¬ (1 : Int) < 1 by omega), decide_eq_true (show (1 : Int) ≤ 12 by omega)]
 exact Ev.now _
theorem One_ev (a0 a1 a2 a3 : Int) (l : List ByteArray) (hl : l.length ≤ 4611686018427387904) : Ev (fun k => grapevineref05_One.f k a0 a1 a2 a3 l a0 a1 a2 a3 l) true := by
 unfold grapevineref05_One.f
 simp only [if_true]
 have h := Texts_ev l l hl
 rw [decide_eq_true rfl] at h
 exact Ev.bind h (Ev.now _)
end Go.Proofs.Ytlabiajcohmjhaa.Pr

namespace Go.Proofs.Ytlabiajcohmjhaa.Pr
open Go.RowKit Go.Proofs.YtlabiajcohmjhaaW.PrintWords Go.Proofs.YtlabiajcohmjhaaW.PrintLast Go.Proofs.YtlabiajcohmjhaaW.PrintMore
set_option linter.unusedVariables false
set_option linter.unusedSimpArgs false
structure HBox (w W : World) (g : Nat) (cs : Array Value) : Prop where
 blk : W.heap[g]? = some (.cells cs 33 (0, 0))
 bel : Below w.heap.size w W
theorem HBox.below {w W W1 : World} {g : Nat} {cs : Array Value} (h : HBox w W g cs) (hb : Below W.heap.size W W1) : HBox w W1 g cs := ⟨blk_below h.blk hb, below_then h.bel h.bel.size hb⟩
theorem HBox.alloc {w W : World} {g : Nat} {cs : Array Value} (h : HBox w W g cs) (o : Obj) : HBox w (W.alloc o) g cs := h.below (below_alloc (Below.refl _ _) o)
theorem HBox.drew {w W : World} {g : Nat} {cs : Array Value} (h : HBox w W g cs) : HBox w W.drew g cs := ⟨h.blk, below_drew h.bel⟩
theorem lit_hunk (W : World) (a0 a1 a2 a3 : Int) (A : Option Addr) (c : Nat) (l : List ByteArray) (hl : l.length ≤ c) (hr : Kd.C Kd.string W A l.length l) :
  Kd.C k33 (W.alloc (.cells #[.int .i64 a0, .int .i64 a1, .int .i64 a2, .int .i64 a3, .slice A l.length c] 33 (0, 0))) (some ⟨W.heap.size, 0, none⟩) 1 [⟨a0, a1, a2, a3, l⟩] := by
 refine ⟨rfl, by omega, fun _ => ⟨_, rfl, fun j p hj => ?_⟩⟩
 cases j with
 | zero =>
  obtain rfl := Option.some.inj hj
  refine ⟨[.int .i64 a0, .int .i64 a1, .int .i64 a2, .int .i64 a3, .slice A l.length c], rfl, k33_mk _ _ hl (Kd.C_alloc hr _), fun i u hi => ?_⟩
  have h := blk_cell (blk_new W (.cells #[.int .i64 a0, .int .i64 a1, .int .i64 a2, .int .i64 a3, .slice A l.length c] 33 (0, 0))) i
  rw [add_plain, Nat.zero_mul, Nat.zero_add, h]
  simpa using hi
 | succ j => simp at hj
theorem set_five {W : World} {g : Nat} {v0 v1 v2 v3 v4 u0 u1 u2 u3 u4 : Value} (h : W.heap[g]? = some (.cells #[v0, v1, v2, v3, v4] 33 (0, 0))) :
  (((((W.setCell ⟨g, 0, none⟩ u0).setCell ⟨g, 1, none⟩ u1).setCell ⟨g, 2, none⟩ u2).setCell ⟨g, 3, none⟩ u3).setCell ⟨g, 4, none⟩ u4).heap[g]? = some (.cells #[u0, u1, u2, u3, u4] 33 (0, 0)) :=
 blk_put (blk_put (blk_put (blk_put (blk_put h 0 u0 rfl) 1 u1 rfl) 2 u2 rfl) 3 u3 rfl) 4 u4 rfl
theorem below_five {w W : World} {g : Nat} {u0 u1 u2 u3 u4 : Value} (h : Below w.heap.size w W) (hg : w.heap.size ≤ g) :
  Below w.heap.size w (((((W.setCell ⟨g, 0, none⟩ u0).setCell ⟨g, 1, none⟩ u1).setCell ⟨g, 2, none⟩ u2).setCell ⟨g, 3, none⟩ u3).setCell ⟨g, 4, none⟩ u4) :=
 below_set (below_set (below_set (below_set (below_set h hg) hg) hg) hg) hg
end Go.Proofs.Ytlabiajcohmjhaa.Pr
-- shrunk
