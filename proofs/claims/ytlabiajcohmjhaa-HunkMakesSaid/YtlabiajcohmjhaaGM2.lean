/-
Several plain texts in one.
-/
import Derived.Test.YtlabiajcohmjhaaGSpecA
import Derived.Test.YtlabiajcohmjhaaGSlices
import Derived.Test.YtlabiajcohmjhaaGSpecT
import Derived.Test.YtlabiajcohmjhaaD1c
import Derived.Test.YtlabiajcohmjhaaD4b
import Derived.Test.YtlabiajcohmjhaaD4a
import Derived.Test.YtlabiajcohmjhaaD1b
import Derived.Test.YtlabiajcohmjhaaD3b
import Derived.Test.YtlabiajcohmjhaaD6a
import Derived.Test.YtlabiajcohmjhaaD5
import Derived.Test.YtlabiajcohmjhaaD2
import Derived.Test.YtlabiajcohmjhaaD3a
namespace Go.Proofs.Ytlabiajcohmjhaa.Pr
open Go.RowKit Go.Proofs.YtlabiajcohmjhaaW.PrintWords Go.Proofs.YtlabiajcohmjhaaW.PrintLast Go.Proofs.YtlabiajcohmjhaaW.PrintMore
set_option linter.unusedVariables false
set_option linter.unusedSimpArgs false
def insE : List Ed → Nat
 | [] => 0
 | e :: l => e.f2.length + insE l
theorem okFrom_cons {fr many : Int} {e : Ed} {l : List Ed} (h : okFrom fr many (e :: l) = true) :
  fr ≤ e.f0 ∧ 0 ≤ e.f1 ∧ e.f0 ≤ many ∧ e.f1 ≤ many - e.f0 ∧ ¬ (e.f1 = 0 ∧ e.f2 = []) ∧ okFrom (e.f0 + e.f1 + 1) many l = true := by
 simp only [okFrom, Bool.and_eq_true, decide_eq_true_eq] at h
 exact ⟨h.1.1, h.1.2.1, h.1.2.2.1, h.1.2.2.2.1, h.1.2.2.2.2, h.2⟩
end Go.Proofs.Ytlabiajcohmjhaa.Pr

namespace Go.Proofs.Ytlabiajcohmjhaa.Pr
open Go.RowKit Go.Proofs.YtlabiajcohmjhaaW.PrintWords Go.Proofs.YtlabiajcohmjhaaW.PrintLast Go.Proofs.YtlabiajcohmjhaaW.PrintMore
set_option linter.unusedVariables false
set_option linter.unusedSimpArgs false
def sg (c : UInt8) (s : ByteArray) : ByteArray := (⟨#[c]⟩ : ByteArray) ++ s
def sgs (c : UInt8) (l : List ByteArray) : List ByteArray := l.map (sg c)
def tl (s : ByteArray) : ByteArray := s.extract 1 s.size
theorem sg_size (c : UInt8) (s : ByteArray) : (sg c s).size = 1 + s.size := by rw [sg, ByteArray.size_append]; rfl
theorem sg_bt (c : UInt8) (s : ByteArray) : bt (sg c s) 0 = (c.toNat : Int) := by
 have h0 : (0 : Int).toNat < (sg c s).size := by rw [sg_size]; show 0 < _; omega
 unfold bt
 rw [dif_pos h0]
 have h1 : (sg c s)[(0 : Int).toNat]'h0 = c := by
  show (sg c s)[0]'_ = c
  simp [sg, ByteArray.getElem_eq_getElem_data]
 rw [h1]
theorem tl_sg (c : UInt8) (s : ByteArray) : tl (sg c s) = s := by
 unfold tl
 rw [sg_size]
 apply ByteArray.ext
 simp [sg, ByteArray.data_extract, ByteArray.data_append]
theorem nil_toList : ([] : List UInt8) = ByteArray.empty.toList := by
 rw [ByteArray.toList, ByteArray.toList.loop]; simp
theorem sg_toList (c : UInt8) (s : ByteArray) : ¬ (sg c s).toList = ([] : List UInt8) := by
 rw [nil_toList, toList_iff]
 intro h
 have h2 := congrArg ByteArray.size h
 rw [sg_size] at h2
 simp at h2
theorem sgs_len (c : UInt8) (l : List ByteArray) : (sgs c l).length = l.length := by simp [sgs]
theorem sgs_map_tl (c : UInt8) (l : List ByteArray) : (sgs c l).map tl = l := by
 rw [sgs, List.map_map]
 have : tl ∘ sg c = id := by funext s; exact tl_sg c s
 rw [this, List.map_id]
theorem fill_set {α : Type} (A : List α) (e v : α) (m i : Nat) (h : A.length = i) : (A ++ List.replicate (m + 1) e).set i v = (A ++ [v]) ++ List.replicate m e := by
 subst h
 rw [List.set_append_right _ _ (Nat.le_refl _), Nat.sub_self, List.replicate_succ, List.set_cons_zero, List.append_assoc]
 rfl
theorem signed_l0 (cz : Int) (c : UInt8) (hc : Go.Utf8.encode cz = (⟨#[c]⟩ : ByteArray)) (l : List ByteArray) (hs : ∀ s ∈ l, s.size ≤ 4611686018427387904) (hn : l.length ≤ 4611686018427387904) :
  ∀ d i, l.length - i = d → i ≤ l.length → Ev (fun k => hunk_signed.l0 k cz (sgs c (l.take i) ++ List.replicate d (⟨#[]⟩ : ByteArray)) l (l.length : Int) (i : Int)) (sgs c l) := by
 intro d
 induction d with
 | zero =>
  intro i hd hi
  refine Ev.step (fun _ => hunk_signed.l0.eq_2 ..) ?_
  simp only [if_neg (show ¬ (i : Int) < (l.length : Int) by omega)]
  rw [List.take_of_length_le (by omega), List.replicate_zero, List.append_nil]
  exact Ev.now _
 | succ d ih =>
  intro i hd hi
  refine Ev.step (fun _ => hunk_signed.l0.eq_2 ..) ?_
  have h0 : i < l.length := by omega
  have hsz := hs l[i] (List.getElem_mem h0)
  have hz : (Go.Utf8.encode cz).size = 1 := by rw [hc]; rfl
  have hA : (sgs c (l.take i)).length = i := by rw [sgs_len, List.length_take]; omega
  have hL : (sgs c (l.take i) ++ List.replicate (d + 1) (⟨#[]⟩ : ByteArray)).length = l.length := by rw [List.length_append, hA, List.length_replicate]; omega
  simp only [if_pos (show (i : Int) < (l.length : Int) by omega), if_pos (show 0 ≤ (i : Int) by omega), rdS_at h0, w_succ h0 hn, hz, hL, if_pos (show 1 + l[i].size ≤ 9223372036854775807 by omega), Int.toNat_natCast]
  rw [fill_set _ _ _ _ _ hA, hc]
  have e : sgs c (l.take i) ++ [(⟨#[c]⟩ : ByteArray) ++ l[i]] = sgs c (l.take (i + 1)) := by
   rw [List.take_succ_eq_append_getElem h0, sgs, sgs, List.map_append]; rfl
  rw [e]
  exact ih (i + 1) (by omega) (by omega)
theorem signed_ev (cz : Int) (c : UInt8) (hc : Go.Utf8.encode cz = (⟨#[c]⟩ : ByteArray)) (l : List ByteArray) (hs : ∀ s ∈ l, s.size ≤ 4611686018427387904) (hn : l.length ≤ 17592186044416) :
  Ev (fun k => hunk_signed.f k cz l) (sgs c l) := by
 unfold hunk_signed.f
 simp only [if_pos (show 0 ≤ (l.length : Int) by omega), Int.toNat_natCast, if_pos hn]
 have h := signed_l0 cz c hc l hs (by omega) _ 0 rfl (by omega)
 simpa [sgs] using h
theorem enc32 : Go.Utf8.encode 32 = (⟨#[32]⟩ : ByteArray) := by rfl
theorem enc45 : Go.Utf8.encode 45 = (⟨#[45]⟩ : ByteArray) := by rfl
theorem enc43 : Go.Utf8.encode 43 = (⟨#[43]⟩ : ByteArray) := by rfl
theorem bare_l0 (l : List ByteArray) (hs : ∀ s ∈ l, 1 ≤ s.size) (hn : l.length ≤ 4611686018427387904) :
  ∀ d i, l.length - i = d → i ≤ l.length → Ev (fun k => hunk_bare.l0 k ((l.take i).map tl ++ List.replicate d (⟨#[]⟩ : ByteArray)) l (l.length : Int) (i : Int)) (l.map tl) := by
 intro d
 induction d with
 | zero =>
  intro i hd hi
  refine Ev.step (fun _ => hunk_bare.l0.eq_2 ..) ?_
  simp only [if_neg (show ¬ (i : Int) < (l.length : Int) by omega)]
  rw [List.take_of_length_le (by omega), List.replicate_zero, List.append_nil]
  exact Ev.now _
 | succ d ih =>
  intro i hd hi
  refine Ev.step (fun _ => hunk_bare.l0.eq_2 ..) ?_
  have h0 : i < l.length := by omega
  have hsz := hs l[i] (List.getElem_mem h0)
  have hA : ((l.take i).map tl).length = i := by rw [List.length_map, List.length_take]; omega
  have hL : ((l.take i).map tl ++ List.replicate (d + 1) (⟨#[]⟩ : ByteArray)).length = l.length := by rw [List.length_append, hA, List.length_replicate]; omega
  simp only [if_pos (show (i : Int) < (l.length : Int) by omega), if_pos (show 0 ≤ (i : Int) by omega), rdS_at h0, w_succ h0 hn, hL, if_pos (show (1 : Int) ≤ (l[i].size : Int) by omega), Int.toNat_natCast]
  rw [fill_set _ _ _ _ _ hA]
  have e : (l.take i).map tl ++ [l[i].extract 1 l[i].size] = (l.take (i + 1)).map tl := by
   rw [List.take_succ_eq_append_getElem h0, List.map_append]; rfl
  rw [e]
  exact ih (i + 1) (by omega) (by omega)
theorem bare_ev (l : List ByteArray) (hs : ∀ s ∈ l, 1 ≤ s.size) (hn : l.length ≤ 17592186044416) : Ev (fun k => hunk_bare.f k l) (l.map tl) := by
 unfold hunk_bare.f
 simp only [if_pos (show 0 ≤ (l.length : Int) by omega), Int.toNat_natCast, if_pos hn]
 have h := bare_l0 l hs (by omega) _ 0 rfl (by omega)
 simpa using h
def runLen (c : Int) : List ByteArray → Nat
 | [] => 0
 | s :: l => if bt s 0 = c then runLen c l + 1 else 0
theorem run_l0 (l : List ByteArray) (c : Int) (hs : ∀ s ∈ l, 1 ≤ s.size) (hn : l.length ≤ 4611686018427387904) :
  ∀ d i, l.length - i = d → i ≤ l.length → Ev (fun k => hunk_run.l0 k l c l (l.length : Int) (i : Int)) ((i + runLen c (l.drop i) : Nat) : Int) := by
 intro d
 induction d with
 | zero =>
  intro i hd hi
  refine Ev.step (fun _ => hunk_run.l0.eq_2 ..) ?_
  simp only [if_neg (show ¬ (i : Int) < (l.length : Int) by omega)]
  rw [List.drop_of_length_le (by omega)]
  have e : ((i + runLen c [] : Nat) : Int) = (l.length : Int) := by simp only [runLen]; omega
  rw [e]
  exact Ev.now _
 | succ d ih =>
  intro i hd hi
  refine Ev.step (fun _ => hunk_run.l0.eq_2 ..) ?_
  have h0 : i < l.length := by omega
  have hsz := hs l[i] (List.getElem_mem h0)
  rw [List.drop_eq_getElem_cons h0]
  simp only [if_pos (show (i : Int) < (l.length : Int) by omega), if_pos (show 0 ≤ (i : Int) by omega), rdS_at h0, w_succ h0 hn, if_pos (show (0 : Int) < (l[i].size : Int) by omega), runLen]
  by_cases hb : bt l[i] 0 = c
  ·simp only [if_pos hb]
   have h := ih (i + 1) (by omega) (by omega)
   rw [show i + 1 + runLen c (l.drop (i + 1)) = i + (runLen c (l.drop (i + 1)) + 1) by omega] at h
   exact h
  ·simp only [if_neg hb]
   exact Ev.now _
theorem run_ev (l : List ByteArray) (c : Int) (hs : ∀ s ∈ l, 1 ≤ s.size) (hn : l.length ≤ 4611686018427387904) : Ev (fun k => hunk_run.f k l c) (runLen c l : Int) := by
 unfold hunk_run.f
 have h := run_l0 l c hs hn _ 0 rfl (by omega)
 simpa using h
theorem runLen_same (c : UInt8) (z : Int) (hz : (c.toNat : Int) = z) : ∀ (l R : List ByteArray), runLen z (sgs c l ++ R) = l.length + runLen z R
 | [], R => by simp [sgs]
 | s :: l, R => by
  have h := runLen_same c z hz l R
  show runLen z (sg c s :: (sgs c l ++ R)) = _
  rw [runLen, if_pos (by rw [sg_bt, hz]), h, List.length_cons]; omega
theorem runLen_other (c : UInt8) (z : Int) (hz : (c.toNat : Int) ≠ z) (l R : List ByteArray) (hl : l ≠ []) : runLen z (sgs c l ++ R) = 0 := by
 cases l with
 | nil => exact absurd rfl hl
 | cons s l => show runLen z (sg c s :: (sgs c l ++ R)) = _; rw [runLen, if_neg (by rw [sg_bt]; exact hz)]
def cntL (came : Bool) (an bn : Int) : List ByteArray → Int × Int × Bool
 | [] => (an, bn, true)
 | s :: l => if s.toList = ([] : List UInt8) then (0, 0, false) else if bt s 0 = 45 ∧ came = true then (0, 0, false) else
   if bt s 0 = 32 then cntL false (an + 1) (bn + 1) l else if bt s 0 = 43 then cntL true an (bn + 1) l else if bt s 0 = 45 then cntL false (an + 1) bn l else (0, 0, false)
theorem ne_size {s : ByteArray} (h : ¬ s.toList = ([] : List UInt8)) : 0 < s.size := by
 rw [nil_toList, toList_iff] at h
 rcases Nat.eq_zero_or_pos s.size with h0 | h0
 ·exact absurd (ByteArray.size_eq_zero_iff.1 h0) h
 ·exact h0
theorem count_l0 (l : List ByteArray) (hn : l.length ≤ 1099511627776) :
  ∀ (d i : Nat) (an bn : Int) (came : Bool), l.length - i = d → i ≤ l.length → 0 ≤ an → an ≤ i → 0 ≤ bn → bn ≤ i → Ev (fun k => hunk_count.l0 k an bn came l (l.length : Int) (i : Int)) (cntL came an bn (l.drop i)) := by
 intro d
 induction d with
 | zero =>
  intro i an bn came hd hi h1 h2 h3 h4
  refine Ev.step (fun _ => hunk_count.l0.eq_2 ..) ?_
  simp only [if_neg (show ¬ (i : Int) < (l.length : Int) by omega)]
  rw [List.drop_of_length_le (by omega)]
  exact Ev.now _
 | succ d ih =>
  intro i an bn came hd hi h1 h2 h3 h4
  refine Ev.step (fun _ => hunk_count.l0.eq_2 ..) ?_
  have h0 : i < l.length := by omega
  rw [List.drop_eq_getElem_cons h0]
  simp only [if_pos (show (i : Int) < (l.length : Int) by omega), if_pos (show 0 ≤ (i : Int) by omega), rdS_at h0, cntL]
  have wa : wrap64 (an + 1) = an + 1 := w_in (by omega) (by omega)
  have wb : wrap64 (bn + 1) = bn + 1 := w_in (by omega) (by omega)
  have hj : ∀ cc : Bool, 0 < l[i].size → Ev (fun k => hunk_count.j1 k an bn l[i] l (l.length : Int) (i : Int) cc) (if cc = true then (0, 0, false) else
    if bt l[i] 0 = 32 then cntL false (an + 1) (bn + 1) (l.drop (i + 1)) else if bt l[i] 0 = 43 then cntL true an (bn + 1) (l.drop (i + 1)) else if bt l[i] 0 = 45 then cntL false (an + 1) bn (l.drop (i + 1)) else (0, 0, false)) := by
   intro cc hp
   refine Ev.step (fun _ => hunk_count.j1.eq_2 ..) ?_
   by_cases hcc : cc = true
   ·simp only [if_pos hcc]; exact Ev.now _
   simp only [if_neg hcc, if_pos (show (0 : Int) < (l[i].size : Int) by omega), wa, wb, w_succ h0 (show l.length ≤ 4611686018427387904 by omega)]
   by_cases b32 : bt l[i] 0 = 32
   ·simp only [if_pos b32]
    have h := ih (i + 1) (an + 1) (bn + 1) (bt l[i] 0 == 43) (by omega) (by omega) (by omega) (by omega) (by omega) (by omega)
    rw [show (bt l[i] 0 == 43) = false by rw [b32]; rfl] at h
    simp only [show (bt l[i] 0 == 43) = false by rw [b32]; rfl]
    exact h
   simp only [if_neg b32]
   by_cases b43 : bt l[i] 0 = 43
   ·simp only [if_pos b43]
    have h := ih (i + 1) an (bn + 1) (bt l[i] 0 == 43) (by omega) (by omega) (by omega) (by omega) (by omega) (by omega)
    rw [show (bt l[i] 0 == 43) = true by rw [b43]; rfl] at h
    simp only [show (bt l[i] 0 == 43) = true by rw [b43]; rfl]
    exact h
   simp only [if_neg b43]
   by_cases b45 : bt l[i] 0 = 45
   ·simp only [if_pos b45]
    have h := ih (i + 1) (an + 1) bn (bt l[i] 0 == 43) (by omega) (by omega) (by omega) (by omega) (by omega) (by omega)
    rw [show (bt l[i] 0 == 43) = false by rw [b45]; rfl] at h
    simp only [show (bt l[i] 0 == 43) = false by rw [b45]; rfl]
    exact h
   simp only [if_neg b45]
   exact Ev.now _
  by_cases he : l[i].toList = ([] : List UInt8)
  ·simp only [if_pos he]
   refine Ev.step (fun _ => hunk_count.j1.eq_2 ..) ?_
   simp only [if_true]
   exact Ev.now _
  have hp := ne_size he
  simp only [if_neg he, if_pos (show (0 : Int) < (l[i].size : Int) by omega)]
  by_cases b45 : bt l[i] 0 = 45
  ·simp only [if_pos b45]
   have h := hj came hp
   cases came
   ·simpa [b45] using h
   ·simpa [b45] using h
  ·simp only [if_neg b45]
   have h := hj false hp
   simpa [b45] using h
theorem count_ev (l : List ByteArray) (hn : l.length ≤ 1099511627776) : Ev (fun k => hunk_count.f k l) (cntL false 0 0 l) := by
 unfold hunk_count.f
 have h := count_l0 l hn _ 0 0 0 false rfl (by omega) (by omega) (by omega) (by omega) (by omega)
 simpa using h
end Go.Proofs.Ytlabiajcohmjhaa.Pr

namespace Go.Proofs.Ytlabiajcohmjhaa.Pr
open Go.RowKit Go.Proofs.YtlabiajcohmjhaaW.PrintWords Go.Proofs.YtlabiajcohmjhaaW.PrintLast Go.Proofs.YtlabiajcohmjhaaW.PrintMore
set_option linter.unusedVariables false
set_option linter.unusedSimpArgs false
structure Blk where
 k : List ByteArray
 d : List ByteArray
 i : List ByteArray
def blkLines : List Blk → List ByteArray → List ByteArray
 | [], t => sgs 32 t
 | b :: bs, t => sgs 32 b.k ++ (sgs 45 b.d ++ (sgs 43 b.i ++ blkLines bs t))
def BOk : Bool → List Blk → Prop
 | _, [] => True
 | f, b :: bs => (b.d ≠ [] ∨ b.i ≠ []) ∧ (f = true ∨ b.k ≠ []) ∧ BOk false bs
def oldN : List Blk → Nat
 | [] => 0
 | b :: bs => b.k.length + b.d.length + oldN bs
def newN : List Blk → Nat
 | [] => 0
 | b :: bs => b.k.length + b.i.length + newN bs
def swapB (b : Blk) : Blk := ⟨b.k, b.i, b.d⟩
def edB (at_ : Int) : List Blk → List Ed
 | [] => []
 | b :: bs => ⟨at_ + b.k.length, (b.d.length : Int), b.i⟩ :: edB (at_ + b.k.length + b.d.length) bs
theorem blkLines_len : ∀ (bs : List Blk) (t : List ByteArray), (blkLines bs t).length ≤ oldN bs + newN bs + t.length
 | [], t => by simp [blkLines, sgs_len, oldN, newN]
 | b :: bs, t => by
  have := blkLines_len bs t
  simp only [blkLines, List.length_append, sgs_len, oldN, newN]; omega
theorem blkLines_size : ∀ (bs : List Blk) (t : List ByteArray), ∀ s ∈ blkLines bs t, 1 ≤ s.size
 | [], t, s, h => by
  simp only [blkLines, sgs, List.mem_map] at h
  obtain ⟨x, _, rfl⟩ := h
  rw [sg_size]; omega
 | b :: bs, t, s, h => by
  simp only [blkLines, List.mem_append] at h
  have hm : ∀ (c : UInt8) (l : List ByteArray), s ∈ sgs c l → 1 ≤ s.size := by
   intro c l h
   simp only [sgs, List.mem_map] at h
   obtain ⟨x, _, rfl⟩ := h
   rw [sg_size]; omega
  rcases h with h | h | h | h
  ·exact hm _ _ h
  ·exact hm _ _ h
  ·exact hm _ _ h
  ·exact blkLines_size bs t s h
theorem run_tail (z : Int) (hz : z ≠ 32) : ∀ (bs : List Blk) (t : List ByteArray), BOk false bs → runLen z (blkLines bs t) = 0
 | [], [], _ => rfl
 | [], s :: t, _ => by
  have h := runLen_other 32 z (by intro e; exact hz e.symm) (s :: t) [] (by simp)
  simpa [blkLines] using h
 | b :: bs, t, h => by
  rcases h.2.1 with h1 | h1
  ·exact absurd h1 (by simp)
  ·exact runLen_other 32 z (by intro e; exact hz e.symm) _ _ h1
theorem run_32 (f : Bool) (b : Blk) (bs : List Blk) (t : List ByteArray) (h : BOk f (b :: bs)) : runLen 32 (blkLines (b :: bs) t) = b.k.length := by
 rw [blkLines, runLen_same 32 32 rfl]
 by_cases hd : b.d = []
 ·have hi : b.i ≠ [] := by rcases h.1 with h1 | h1 <;> simp_all
  rw [hd]
  show _ + runLen 32 (sgs 43 b.i ++ _) = _
  rw [runLen_other 43 32 (by decide) _ _ hi]; rfl
 ·rw [runLen_other 45 32 (by decide) _ _ hd]; rfl
theorem run_45 (f : Bool) (b : Blk) (bs : List Blk) (t : List ByteArray) (h : BOk f (b :: bs)) : runLen 45 (sgs 45 b.d ++ (sgs 43 b.i ++ blkLines bs t)) = b.d.length := by
 rw [runLen_same 45 45 rfl]
 by_cases hi : b.i = []
 ·rw [hi]
  show _ + runLen 45 (blkLines bs t) = _
  rw [run_tail 45 (by decide) bs t h.2.2]; rfl
 ·rw [runLen_other 43 45 (by decide) _ _ hi]; rfl
theorem run_43 (f : Bool) (b : Blk) (bs : List Blk) (t : List ByteArray) (h : BOk f (b :: bs)) : runLen 43 (sgs 43 b.i ++ blkLines bs t) = b.i.length := by
 rw [runLen_same 43 43 rfl, run_tail 43 (by decide) bs t h.2.2]; rfl
theorem cntL_32 : ∀ (l : List ByteArray) (came : Bool) (an bn : Int) (R : List ByteArray), cntL came an bn (sgs 32 l ++ R) = cntL (if l = [] then came else false) (an + l.length) (bn + l.length) R
 | [], came, an, bn, R => by simp [sgs]
 | s :: l, came, an, bn, R => by
  have h := cntL_32 l false (an + 1) (bn + 1) R
  show cntL came an bn (sg 32 s :: (sgs 32 l ++ R)) = _
  rw [cntL, if_neg (sg_toList _ _), sg_bt, if_neg (by rintro ⟨h, _⟩; exact absurd h (by decide)), if_pos (by rfl), h]
  simp only [ite_self, if_neg (show ¬ (s :: l = []) by simp), List.length_cons]
  congr 1 <;> (push_cast; omega)
theorem cntL_45 : ∀ (l : List ByteArray) (an bn : Int) (R : List ByteArray), cntL false an bn (sgs 45 l ++ R) = cntL false (an + l.length) bn R
 | [], an, bn, R => by simp [sgs]
 | s :: l, an, bn, R => by
  have h := cntL_45 l (an + 1) bn R
  show cntL false an bn (sg 45 s :: (sgs 45 l ++ R)) = _
  rw [cntL, if_neg (sg_toList _ _), sg_bt, if_neg (by rintro ⟨_, h⟩; exact absurd h (by decide)), if_neg (by decide), if_neg (by decide), if_pos (by rfl), h, List.length_cons]
  congr 1; push_cast; omega
theorem cntL_43 : ∀ (l : List ByteArray) (came : Bool) (an bn : Int) (R : List ByteArray), cntL came an bn (sgs 43 l ++ R) = cntL (if l = [] then came else true) an (bn + l.length) R
 | [], came, an, bn, R => by simp [sgs]
 | s :: l, came, an, bn, R => by
  have h := cntL_43 l true an (bn + 1) R
  show cntL came an bn (sg 43 s :: (sgs 43 l ++ R)) = _
  rw [cntL, if_neg (sg_toList _ _), sg_bt, if_neg (by rintro ⟨h, _⟩; exact absurd h (by decide)), if_neg (by decide), if_pos (by rfl), h]
  simp only [ite_self, if_neg (show ¬ (s :: l = []) by simp), List.length_cons]
  congr 1; push_cast; omega
theorem cntL_blk : ∀ (bs : List Blk) (t : List ByteArray) (f came : Bool) (an bn : Int), BOk f bs → (f = true → came = false) →
  cntL came an bn (blkLines bs t) = (an + oldN bs + t.length, bn + newN bs + t.length, true)
 | [], t, f, came, an, bn, h, hf => by
  have e := cntL_32 t came an bn []
  rw [List.append_nil] at e
  simp only [blkLines, e, cntL, oldN, newN]
  congr 1
  ·push_cast; omega
  ·congr 1; push_cast; omega
 | b :: bs, t, f, came, an, bn, h, hf => by
  have hc : (if b.k = [] then came else false) = false := by
   by_cases hk : b.k = []
   ·rw [if_pos hk]
    rcases h.2.1 with h1 | h1
    ·exact hf h1
    ·exact absurd hk h1
   ·rw [if_neg hk]
  rw [blkLines, cntL_32, hc, cntL_45, cntL_43, cntL_blk bs t false _ _ _ h.2.2 (by simp)]
  simp only [oldN, newN]
  congr 1
  ·push_cast; omega
  ·congr 1; push_cast; omega
theorem HRight_ev (A An B Bn : Int) (l : List ByteArray) (hn : l.length ≤ 1099511627776) :
  Ev (fun k => hunk_Right.f k A An B Bn l) (decide ((cntL false 0 0 l).2.2 = true ∧ 0 ≤ A ∧ 0 ≤ B ∧ (cntL false 0 0 l).1 = An ∧ (cntL false 0 0 l).2.1 = Bn)) := by
 unfold hunk_Right.f
 refine Ev.bind (count_ev l hn) ?_
 generalize cntL false 0 0 l = c
 by_cases h1 : c.2.2 = true
 ·simp only [if_pos h1]
  by_cases h2 : A ≥ 0
  ·simp only [if_pos h2]
   by_cases h3 : B ≥ 0
   ·simp only [if_pos h3]
    by_cases h4 : c.1 = An
    ·simp only [if_pos h4]
     have e : (c.2.1 == Bn) = decide (c.2.2 = true ∧ 0 ≤ A ∧ 0 ≤ B ∧ c.1 = An ∧ c.2.1 = Bn) := by
      rw [Bool.eq_iff_iff, beq_iff_eq, decide_eq_true_iff]; exact ⟨fun h => ⟨h1, h2, h3, h4, h⟩, fun h => h.2.2.2.2⟩
     rw [e]; exact Ev.now _
    ·simp only [if_neg h4]
     rw [decide_eq_false (fun h => h4 h.2.2.2.1)]; exact Ev.now _
   ·simp only [if_neg h3]
    rw [decide_eq_false (fun h => h3 h.2.2.1)]; exact Ev.now _
  ·simp only [if_neg h2]
   rw [decide_eq_false (fun h => h2 h.2.1)]; exact Ev.now _
 ·simp only [if_neg h1]
  rw [decide_eq_false (fun h => h1 h.1)]; exact Ev.now _
theorem drop_sgs (c : UInt8) (l R : List ByteArray) (n : Nat) (h : n = l.length) : (sgs c l ++ R).drop n = R := by
 subst h; rw [List.drop_append_of_le_length (by rw [sgs_len]; exact Nat.le_refl _), List.drop_of_length_le (by rw [sgs_len]; exact Nat.le_refl _)]; rfl
theorem take_sgs (c : UInt8) (l R : List ByteArray) (n : Nat) (h : n = l.length) : (sgs c l ++ R).take n = sgs c l := by
 subst h; rw [List.take_append_of_le_length (by rw [sgs_len]; exact Nat.le_refl _), List.take_of_length_le (by rw [sgs_len]; exact Nat.le_refl _)]
structure Cut3 (x : List ByteArray) (b : Blk) (R : List ByteArray) : Prop where
 len : 0 < x.length
 n : runLen 32 x = b.k.length
 d : runLen 45 (x.drop b.k.length) = b.d.length
 i : runLen 43 (x.drop (b.k.length + b.d.length)) = b.i.length
 tk : x.take b.k.length = sgs 32 b.k
 td : (x.take (b.k.length + b.d.length)).drop b.k.length = sgs 45 b.d
 ti : (x.take (b.k.length + b.d.length + b.i.length)).drop (b.k.length + b.d.length) = sgs 43 b.i
 tr : x.drop (b.k.length + b.d.length + b.i.length) = R
 le : b.k.length + b.d.length + b.i.length ≤ x.length
theorem cut3_parts (b : Blk) (R : List ByteArray) (hl : 0 < (sgs 32 b.k ++ (sgs 45 b.d ++ (sgs 43 b.i ++ R))).length)
  (h1 : runLen 32 (sgs 32 b.k ++ (sgs 45 b.d ++ (sgs 43 b.i ++ R))) = b.k.length) (h2 : runLen 45 (sgs 45 b.d ++ (sgs 43 b.i ++ R)) = b.d.length) (h3 : runLen 43 (sgs 43 b.i ++ R) = b.i.length) :
  Cut3 (sgs 32 b.k ++ (sgs 45 b.d ++ (sgs 43 b.i ++ R))) b R := by
 have d1 := drop_sgs 32 b.k (sgs 45 b.d ++ (sgs 43 b.i ++ R)) _ rfl
 have d2 := drop_sgs 45 b.d (sgs 43 b.i ++ R) _ rfl
 have d3 := drop_sgs 43 b.i R _ rfl
 refine ⟨hl, h1, by rw [d1]; exact h2, by rw [← List.drop_drop, d1, d2]; exact h3, take_sgs _ _ _ _ rfl, ?_, ?_, ?_, ?_⟩
 ·rw [List.drop_take, d1, show b.k.length + b.d.length - b.k.length = b.d.length by omega, take_sgs _ _ _ _ rfl]
 ·rw [List.drop_take, ← List.drop_drop, d1, d2, show b.k.length + b.d.length + b.i.length - (b.k.length + b.d.length) = b.i.length by omega, take_sgs _ _ _ _ rfl]
 ·rw [Nat.add_assoc, ← List.drop_drop, d1, ← List.drop_drop, d2, d3]
 ·simp only [List.length_append, sgs_len]; omega
theorem cut3_blk (f : Bool) (b : Blk) (bs : List Blk) (t : List ByteArray) (h : BOk f (b :: bs)) : Cut3 (blkLines (b :: bs) t) b (blkLines bs t) := by
 have h1 := run_32 f b bs t h
 rw [blkLines] at h1 ⊢
 refine cut3_parts b _ ?_ h1 (run_45 f b bs t h) (run_43 f b bs t h)
 simp only [List.length_append, sgs_len]
 rcases h.1 with h2 | h2
 ·have := List.length_pos_iff.2 h2; omega
 ·have := List.length_pos_iff.2 h2; omega
theorem cut3_end (s : ByteArray) (t : List ByteArray) : Cut3 (blkLines [] (s :: t)) ⟨s :: t, [], []⟩ [] := by
 have h := cut3_parts ⟨s :: t, [], []⟩ [] (by simp [sgs]) (by
  show runLen 32 (sgs 32 (s :: t) ++ []) = _
  rw [runLen_same 32 32 rfl]; rfl) rfl rfl
 simpa [blkLines, sgs] using h
theorem Edits_cut (x R : List ByteArray) (b : Blk) (hx : x.length ≤ 1099511627776) (hs : ∀ s ∈ x, 1 ≤ s.size) (h : Cut3 x b R) (out : List Ed) (at_ : Int) (ha0 : 0 ≤ at_) (ha : at_ ≤ 4398046511104) (ho : out.length ≤ 1099511627776) (r : List Ed)
  (rest : Ev (fun k => hunk_Edits.l0 k (if b.d = [] ∧ b.i = [] then out else out ++ [⟨at_ + b.k.length, (b.d.length : Int), b.i⟩]) (at_ + b.k.length + b.d.length) R) r) : Ev (fun k => hunk_Edits.l0 k out at_ x) r := by
 refine Ev.step (fun _ => hunk_Edits.l0.eq_2 ..) ?_
 have hle := h.le
 simp only [if_pos (show (x.length : Int) > 0 by have := h.len; omega)]
 have hsd : ∀ n, ∀ s ∈ x.drop n, 1 ≤ s.size := fun n s hm => hs s (List.mem_of_mem_drop hm)
 refine Ev.bind (run_ev x 32 hs (by omega)) ?_
 rw [h.n]
 simp only [if_pos (show 0 ≤ (b.k.length : Int) by omega), if_pos (show (b.k.length : Int) ≤ (x.length : Int) by omega), Int.toNat_natCast]
 refine Ev.bind (run_ev _ 45 (hsd _) (by rw [List.length_drop]; omega)) ?_
 rw [h.d]
 have w1 : wrap64 ((b.k.length : Int) + (b.d.length : Int)) = ((b.k.length + b.d.length : Nat) : Int) := by rw [w_in (by omega) (by omega)]; push_cast; rfl
 have w2 : wrap64 (((b.k.length + b.d.length : Nat) : Int) + (b.i.length : Int)) = ((b.k.length + b.d.length + b.i.length : Nat) : Int) := by rw [w_in (by omega) (by omega)]; push_cast; rfl
 have w3 : wrap64 (at_ + (b.k.length : Int)) = at_ + b.k.length := w_in (by omega) (by omega)
 have w4 : wrap64 (((b.k.length + b.d.length : Nat) : Int) - (b.k.length : Int)) = (b.d.length : Int) := by rw [w_in (by omega) (by omega)]; omega
 have w5 : wrap64 (at_ + ((b.k.length + b.d.length : Nat) : Int)) = at_ + b.k.length + b.d.length := by rw [w_in (by omega) (by omega)]; omega
 simp only [w1, if_pos (show 0 ≤ ((b.k.length + b.d.length : Nat) : Int) by omega), if_pos (show ((b.k.length + b.d.length : Nat) : Int) ≤ (x.length : Int) by omega), Int.toNat_natCast]
 refine Ev.bind (run_ev _ 43 (hsd _) (by rw [List.length_drop]; omega)) ?_
 rw [h.i]
 simp only [w2, w3, w4, w5]
 by_cases he : b.d = [] ∧ b.i = []
 ·have e1 : b.d.length = 0 := by rw [he.1]; rfl
  have e2 : b.i.length = 0 := by rw [he.2]; rfl
  simp only [if_neg (show ¬ ((b.k.length + b.d.length + b.i.length : Nat) : Int) > (b.k.length : Int) by omega), if_pos (show 0 ≤ ((b.k.length + b.d.length + b.i.length : Nat) : Int) by omega), if_pos (show ((b.k.length + b.d.length + b.i.length : Nat) : Int) ≤ (x.length : Int) by omega), Int.toNat_natCast]
  rw [if_pos he] at rest
  rw [h.tr]
  exact rest
 ·have hpos : 0 < b.d.length + b.i.length := by
   rcases Nat.eq_zero_or_pos (b.d.length + b.i.length) with h0 | h0
   ·exact absurd ⟨List.eq_nil_of_length_eq_zero (by omega), List.eq_nil_of_length_eq_zero (by omega)⟩ he
   ·exact h0
  simp only [if_pos (show ((b.k.length + b.d.length + b.i.length : Nat) : Int) > (b.k.length : Int) by omega), if_pos (show ((b.k.length + b.d.length : Nat) : Int) ≤ ((b.k.length + b.d.length + b.i.length : Nat) : Int) by omega),
   if_pos (show ((b.k.length + b.d.length + b.i.length : Nat) : Int) ≤ (x.length : Int) by omega), Int.toNat_natCast]
  rw [h.ti]
  refine Ev.bind (bare_ev (sgs 43 b.i) (fun s hm => ?_) (by rw [sgs_len]; omega)) ?_
  ·simp only [sgs, List.mem_map] at hm
   obtain ⟨y, _, rfl⟩ := hm
   rw [sg_size]; omega
  ·rw [sgs_map_tl]
   simp only [if_pos (show out.length < 3518437208883 by omega), if_pos (show 0 ≤ ((b.k.length + b.d.length + b.i.length : Nat) : Int) by omega)]
   rw [if_neg he] at rest
   rw [h.tr]
   exact rest
theorem Edits_blk : ∀ (bs : List Blk) (t : List ByteArray) (f : Bool) (out : List Ed) (at_ : Int), BOk f bs → 0 ≤ at_ → at_ + oldN bs ≤ 4398046511104 → oldN bs + newN bs + t.length ≤ 1099511627776 → out.length + bs.length ≤ 1099511627776 →
  Ev (fun k => hunk_Edits.l0 k out at_ (blkLines bs t)) (out ++ edB at_ bs)
 | [], [], f, out, at_, h, h0, h1, h2, h3 => by
  refine Ev.step (fun _ => hunk_Edits.l0.eq_2 ..) ?_
  simp [blkLines, sgs, edB]
  exact Ev.now _
 | [], s :: t, f, out, at_, h, h0, h1, h2, h3 => by
  have hl := blkLines_len [] (s :: t)
  simp only [oldN, newN] at h1 h2 hl
  refine Edits_cut _ _ _ (by omega) (blkLines_size _ _) (cut3_end s t) out at_ h0 (by omega) (by omega) _ ?_
  rw [if_pos ⟨rfl, rfl⟩]
  refine Ev.step (fun _ => hunk_Edits.l0.eq_2 ..) ?_
  simp [edB]
  exact Ev.now _
 | b :: bs, t, f, out, at_, h, h0, h1, h2, h3 => by
  have hl := blkLines_len (b :: bs) t
  have hn : ¬ (b.d = [] ∧ b.i = []) := fun e => by rcases h.1 with h1 | h1 <;> simp_all
  simp only [oldN, newN, List.length_cons] at h1 h2 h3 hl
  refine Edits_cut _ _ _ (by omega) (blkLines_size _ _) (cut3_blk f b bs t h) out at_ h0 (by omega) (by omega) _ ?_
  rw [if_neg hn]
  have ih := Edits_blk bs t false (out ++ [⟨at_ + b.k.length, (b.d.length : Int), b.i⟩]) (at_ + b.k.length + b.d.length) h.2.2 (by omega) (by omega) (by omega) (by rw [List.length_append, List.length_singleton]; omega)
  rw [List.append_assoc] at ih
  exact ih
theorem Edits_ev (A An B Bn : Int) (bs : List Blk) (t : List ByteArray) (h : BOk true bs) (h0 : 0 ≤ A) (h1 : A + oldN bs ≤ 4398046511104) (h2 : oldN bs + newN bs + t.length ≤ 1099511627776) (h3 : bs.length ≤ 1099511627776) :
  Ev (fun k => hunk_Edits.f k A An B Bn (blkLines bs t)) (edB A bs) := by
 have e := Edits_blk bs t true [] A h h0 h1 h2 (by simpa using h3)
 exact e
theorem Turn_cut (x R : List ByteArray) (b : Blk) (hx : x.length ≤ 1099511627776) (hs : ∀ s ∈ x, 1 ≤ s.size) (hz : ∀ s ∈ b.d ++ b.i, s.size ≤ 4611686018427387904) (h : Cut3 x b R) (q0 q1 q2 q3 : Int) (out : List ByteArray) (ho : out.length + x.length ≤ 4398046511104) (r : Int × Int × Int × Int × List ByteArray)
  (rest : Ev (fun k => hunk_Turn.l0 k R q0 q1 q2 q3 (out ++ (sgs 32 b.k ++ (sgs 45 b.i ++ sgs 43 b.d)))) r) : Ev (fun k => hunk_Turn.l0 k x q0 q1 q2 q3 out) r := by
 refine Ev.step (fun _ => hunk_Turn.l0.eq_2 ..) ?_
 have hle := h.le
 simp only [if_pos (show (x.length : Int) > 0 by have := h.len; omega)]
 have hsd : ∀ n, ∀ s ∈ x.drop n, 1 ≤ s.size := fun n s hm => hs s (List.mem_of_mem_drop hm)
 have hsg : ∀ (c : UInt8) (l : List ByteArray), ∀ s ∈ sgs c l, 1 ≤ s.size := fun c l s hm => by
  simp only [sgs, List.mem_map] at hm
  obtain ⟨y, _, rfl⟩ := hm
  rw [sg_size]; omega
 refine Ev.bind (run_ev x 32 hs (by omega)) ?_
 rw [h.n]
 simp only [if_pos (show 0 ≤ (b.k.length : Int) by omega), if_pos (show (b.k.length : Int) ≤ (x.length : Int) by omega), Int.toNat_natCast]
 refine Ev.bind (run_ev _ 45 (hsd _) (by rw [List.length_drop]; omega)) ?_
 rw [h.d]
 have w1 : wrap64 ((b.k.length : Int) + (b.d.length : Int)) = ((b.k.length + b.d.length : Nat) : Int) := by rw [w_in (by omega) (by omega)]; push_cast; rfl
 have w2 : wrap64 (((b.k.length + b.d.length : Nat) : Int) + (b.i.length : Int)) = ((b.k.length + b.d.length + b.i.length : Nat) : Int) := by rw [w_in (by omega) (by omega)]; push_cast; rfl
 simp only [w1, if_pos (show 0 ≤ ((b.k.length + b.d.length : Nat) : Int) by omega), if_pos (show ((b.k.length + b.d.length : Nat) : Int) ≤ (x.length : Int) by omega), Int.toNat_natCast]
 refine Ev.bind (run_ev _ 43 (hsd _) (by rw [List.length_drop]; omega)) ?_
 rw [h.i]
 simp only [w2, if_pos (show ((b.k.length + b.d.length : Nat) : Int) ≤ ((b.k.length + b.d.length + b.i.length : Nat) : Int) by omega), if_pos (show ((b.k.length + b.d.length + b.i.length : Nat) : Int) ≤ (x.length : Int) by omega), Int.toNat_natCast]
 rw [h.ti]
 refine Ev.bind (bare_ev _ (hsg 43 b.i) (by rw [sgs_len]; omega)) ?_
 rw [sgs_map_tl]
 refine Ev.bind (signed_ev 45 45 enc45 b.i (fun s hm => hz s (List.mem_append_right _ hm)) (by omega)) ?_
 simp only [if_pos (show (b.k.length : Int) ≤ ((b.k.length + b.d.length : Nat) : Int) by omega)]
 rw [h.td]
 refine Ev.bind (bare_ev _ (hsg 45 b.d) (by rw [sgs_len]; omega)) ?_
 rw [sgs_map_tl]
 refine Ev.bind (signed_ev 43 43 enc43 b.d (fun s hm => hz s (List.mem_append_left _ hm)) (by omega)) ?_
 rw [h.tk, h.tr]
 have hf : ([out, sgs 32 b.k, sgs 45 b.i, sgs 43 b.d] : List (List ByteArray)).flatten = out ++ (sgs 32 b.k ++ (sgs 45 b.i ++ sgs 43 b.d)) := by simp
 simp only [slices_Concat_string_string.f, hf]
 rw [if_pos (by simp only [List.length_append, sgs_len]; omega)]
 simp only [Option.bind_some, if_pos (show 0 ≤ ((b.k.length + b.d.length + b.i.length : Nat) : Int) by omega)]
 exact rest
def blkBig : List Blk → Prop
 | [] => True
 | b :: bs => (∀ s ∈ b.d ++ b.i, s.size ≤ 4611686018427387904) ∧ blkBig bs
theorem Turn_blk (q0 q1 q2 q3 : Int) : ∀ (bs : List Blk) (t : List ByteArray) (f : Bool) (out : List ByteArray), BOk f bs → blkBig bs → oldN bs + newN bs + t.length ≤ 1099511627776 → out.length + (oldN bs + newN bs + t.length) ≤ 4398046511104 →
  Ev (fun k => hunk_Turn.l0 k (blkLines bs t) q0 q1 q2 q3 out) (q0, q1, q2, q3, out ++ blkLines (bs.map swapB) t)
 | [], [], f, out, h, hb, h2, h3 => by
  refine Ev.step (fun _ => hunk_Turn.l0.eq_2 ..) ?_
  simp [blkLines, sgs]
  exact Ev.now _
 | [], s :: t, f, out, h, hb, h2, h3 => by
  have hl := blkLines_len [] (s :: t)
  simp only [oldN, newN] at h2 h3 hl
  refine Turn_cut _ _ _ (by omega) (blkLines_size _ _) (by simp) (cut3_end s t) q0 q1 q2 q3 out (by omega) _ ?_
  refine Ev.step (fun _ => hunk_Turn.l0.eq_2 ..) ?_
  simp [blkLines, sgs]
  exact Ev.now _
 | b :: bs, t, f, out, h, hb, h2, h3 => by
  have hl := blkLines_len (b :: bs) t
  simp only [oldN, newN] at h2 h3 hl
  refine Turn_cut _ _ _ (by omega) (blkLines_size _ _) hb.1 (cut3_blk f b bs t h) q0 q1 q2 q3 out (by omega) _ ?_
  have ih := Turn_blk q0 q1 q2 q3 bs t false (out ++ (sgs 32 b.k ++ (sgs 45 b.i ++ sgs 43 b.d))) h.2.2 hb.2 (by omega) (by simp only [List.length_append, sgs_len]; omega)
  simp only [List.map_cons, blkLines, swapB]
  simpa [List.append_assoc] using ih
theorem HTurn_ev (A An B Bn : Int) (bs : List Blk) (t : List ByteArray) (h : BOk true bs) (hb : blkBig bs) (h2 : oldN bs + newN bs + t.length ≤ 1099511627776) :
  Ev (fun k => hunk_Turn.f k A An B Bn (blkLines bs t)) (B, Bn, A, An, blkLines (bs.map swapB) t) := by
 have e := Turn_blk B Bn A An bs t true [] h hb h2 (by simp; omega)
 exact e
end Go.Proofs.Ytlabiajcohmjhaa.Pr

namespace Go.Proofs.Ytlabiajcohmjhaa.Pr
open Go.RowKit Go.Proofs.YtlabiajcohmjhaaW.PrintWords Go.Proofs.YtlabiajcohmjhaaW.PrintLast Go.Proofs.YtlabiajcohmjhaaW.PrintMore
set_option linter.unusedVariables false
set_option linter.unusedSimpArgs false
abbrev Hk := S33
def blks (a : List ByteArray) (t : Nat) : List Ed → List Blk
 | [] => []
 | e :: l => ⟨(a.take e.f0.toNat).drop t, (a.take (e.f0 + e.f1).toNat).drop e.f0.toNat, e.f2⟩ :: blks a (e.f0 + e.f1).toNat l
def endE (p : Ed) : List Ed → Int
 | [] => p.f0 + p.f1
 | e :: l => endE e l
def diffE : List Ed → Int
 | [] => 0
 | e :: l => ((e.f2.length : Int) - e.f1) + diffE l
theorem okFrom_last {many : Int} : ∀ (l : List Ed) (p : Ed) (fr : Int), okFrom fr many (p :: l) = true → fr ≤ endE p l ∧ p.f0 + p.f1 ≤ endE p l ∧ endE p l ≤ many
 | [], p, fr, h => by obtain ⟨c1, c2, c3, c4, _, _⟩ := okFrom_cons h; simp only [endE]; omega
 | e :: l, p, fr, h => by
  obtain ⟨c1, c2, c3, c4, _, h'⟩ := okFrom_cons h
  have := okFrom_last l e _ h'
  simp only [endE]; omega
theorem endE_get : ∀ (l : List Ed) (p : Ed), endE p l = ((p :: l)[l.length]'(by simp)).f0 + ((p :: l)[l.length]'(by simp)).f1
 | [], p => rfl
 | e :: l, p => by have := endE_get l e; simpa [endE] using this
theorem blks_ok (a : List ByteArray) : ∀ (l : List Ed) (fr : Int) (t : Nat) (first : Bool), (t : Int) ≤ fr → (first = true ∨ (t : Int) < fr) → okFrom fr a.length l = true → BOk first (blks a t l)
 | [], fr, t, first, h, hf, ho => trivial
 | e :: l, fr, t, first, h, hf, ho => by
  obtain ⟨c1, c2, c3, c4, c5, ho'⟩ := okFrom_cons ho
  refine ⟨?_, ?_, blks_ok a l _ _ false (by omega) (Or.inr (by omega)) ho'⟩
  ·by_cases hi : e.f2 = []
   ·left
    intro hd
    have h2 := congrArg List.length hd
    simp only [List.length_drop, List.length_take, List.length_nil] at h2
    exact c5 ⟨by omega, hi⟩
   ·exact Or.inr hi
  ·rcases hf with hf | hf
   ·exact Or.inl hf
   ·right
    intro hk
    have h2 := congrArg List.length hk
    simp only [List.length_drop, List.length_take, List.length_nil] at h2
    omega
theorem blks_counts (a : List ByteArray) : ∀ (l : List Ed) (p : Ed) (fr : Int) (t : Nat), (t : Int) ≤ fr → okFrom fr a.length (p :: l) = true →
  (oldN (blks a t (p :: l)) : Int) = endE p l - t ∧ (newN (blks a t (p :: l)) : Int) = endE p l - t + diffE (p :: l)
 | [], p, fr, t, h, ho => by
  obtain ⟨c1, c2, c3, c4, c5, ho'⟩ := okFrom_cons ho
  simp only [blks, oldN, newN, endE, diffE, List.length_drop, List.length_take]
  omega
 | e :: l, p, fr, t, h, ho => by
  obtain ⟨c1, c2, c3, c4, c5, ho'⟩ := okFrom_cons ho
  have ih := blks_counts a l e _ (p.f0 + p.f1).toNat (by omega) ho'
  rw [blks]
  simp only [oldN, newN, endE, List.length_drop, List.length_take]
  rw [diffE]
  omega
def fromH (p : Ed) (ar : Int) : Nat := (p.f0 - ar).toNat
def toH (a : List ByteArray) (p : Ed) (l : List Ed) (ar : Int) : Nat := min a.length (endE p l + ar).toNat
def linesH (a : List ByteArray) (ar : Int) (p : Ed) (l : List Ed) : List ByteArray := blkLines (blks a (fromH p ar) (p :: l)) ((a.take (toH a p l ar)).drop (endE p l).toNat)
def hunkOf (a : List ByteArray) (ar more : Int) (p : Ed) (l : List Ed) : Hk :=
 ⟨(fromH p ar : Int), (toH a p l ar : Int) - fromH p ar, fromH p ar + more, (toH a p l ar : Int) - fromH p ar + diffE (p :: l), linesH a ar p l⟩
theorem tail_len (a : List ByteArray) (ar : Int) (p : Ed) (l : List Ed) (fr : Int) (har : 0 ≤ ar) (hf : 0 ≤ fr) (ho : okFrom fr a.length (p :: l) = true) :
  ((((a.take (toH a p l ar)).drop (endE p l).toNat).length : Nat) : Int) = toH a p l ar - endE p l ∧ endE p l ≤ toH a p l ar ∧ toH a p l ar ≤ a.length := by
 have h := okFrom_last l p fr ho
 obtain ⟨c1, c2, c3, c4, c5, ho'⟩ := okFrom_cons ho
 simp only [List.length_drop, List.length_take, toH]
 omega
theorem cntL_linesH (a : List ByteArray) (ar : Int) (p : Ed) (l : List Ed) (fr : Int) (har : 0 ≤ ar) (hf : 0 ≤ fr) (ho : okFrom fr a.length (p :: l) = true) :
  cntL false 0 0 (linesH a ar p l) = ((toH a p l ar : Int) - fromH p ar, (toH a p l ar : Int) - fromH p ar + diffE (p :: l), true) := by
 obtain ⟨c1, c2, c3, c4, c5, ho'⟩ := okFrom_cons ho
 have ho0 : okFrom p.f0 a.length (p :: l) = true := by
  simp only [okFrom, Bool.and_eq_true, decide_eq_true_eq]
  exact ⟨⟨Int.le_refl _, c2, c3, c4, c5⟩, ho'⟩
 have hft : (fromH p ar : Int) ≤ p.f0 := by unfold fromH; omega
 have h1 := blks_ok a (p :: l) p.f0 (fromH p ar) true hft (Or.inl rfl) ho0
 have h2 := blks_counts a l p p.f0 (fromH p ar) hft ho0
 have h3 := tail_len a ar p l fr har hf ho
 rw [linesH, cntL_blk _ _ true false _ _ h1 (fun _ => rfl)]
 congr 1
 ·omega
 ·congr 1; omega
theorem Group_l0 (a : List ByteArray) (g : List Ed) (ha : a.length ≤ 1099511627776) (hg : g.length ≤ 1099511627776) (hsa : ∀ s ∈ a, s.size ≤ 4611686018427387904) (hsg : ∀ e ∈ g, ∀ s ∈ e.f2, s.size ≤ 4611686018427387904) (q0 q1 q2 q3 : Int) (tw : Nat) (hto : tw ≤ a.length) (G : List ByteArray) (hG : G.length ≤ 1099511627776) (c : Int × Int × Bool) (hc : cntL false 0 0 G = c) :
  ∀ (d i t : Nat) (fr : Int) (en : Nat) (out : List ByteArray), g.length - i = d → i ≤ g.length → 0 ≤ fr → (t : Int) ≤ fr → t ≤ a.length → okFrom fr a.length (g.drop i) = true → en ≤ tw → (match g.drop i with | [] => (en : Int) = t | p :: l => (en : Int) = endE p l) →
   out ++ blkLines (blks a t (g.drop i)) ((a.take tw).drop en) = G → insE (g.drop i) ≤ 1099511627776 →
  Ev (fun k => hunk_group.l0 k a (tw : Int) (t : Int) g (g.length : Int) (i : Int) q0 q1 q2 q3 out) (q0, c.1, q2, c.2.1, G) := by
 intro d
 induction d with
 | zero =>
  intro i t fr en out hd hi hf0 hf ht ho hen hm hG2 hb
  refine Ev.step (fun _ => hunk_group.l0.eq_2 ..) ?_
  rw [List.drop_of_length_le (by omega : g.length ≤ i)] at *
  have hm' : (en : Int) = t := hm
  have hent : en = t := by omega
  subst hent
  simp only [if_neg (show ¬ (i : Int) < (g.length : Int) by omega), if_pos (show 0 ≤ (en : Int) by omega), if_pos (show (en : Int) ≤ (tw : Int) by omega), if_pos (show (tw : Int) ≤ (a.length : Int) by omega), Int.toNat_natCast]
  refine Ev.bind (signed_ev 32 32 enc32 _ (fun s hm => hsa s (List.mem_of_mem_take (List.mem_of_mem_drop hm))) (by rw [List.length_drop, List.length_take]; omega)) ?_
  have e : out ++ sgs 32 ((a.take tw).drop en) = G := hG2
  have hL := congrArg List.length e
  rw [List.length_append] at hL
  simp only [if_pos (show out.length + (sgs 32 ((a.take tw).drop en)).length < 8796093022208 by omega), e, Option.bind_some]
  refine Ev.bind (count_ev G hG) ?_
  rw [hc]
  exact Ev.now _
 | succ d ih =>
  intro i t fr en out hd hi hf0 hf ht ho hen hm hG2 hb
  refine Ev.step (fun _ => hunk_group.l0.eq_2 ..) ?_
  have h0 : i < g.length := by omega
  rw [List.drop_eq_getElem_cons h0] at ho hm hG2 hb
  obtain ⟨c1, c2, c3, c4, c5, ho'⟩ := okFrom_cons ho
  have w1 : wrap64 (g[i].f0 + g[i].f1) = g[i].f0 + g[i].f1 := w_in (by omega) (by omega)
  have hmem : g[i] ∈ g := List.getElem_mem h0
  simp only [insE] at hb
  simp only [if_pos (show (i : Int) < (g.length : Int) by omega), if_pos (show 0 ≤ (i : Int) by omega), rdE_at h0, w_succ h0 (show g.length ≤ 4611686018427387904 by omega), if_pos (show 0 ≤ (t : Int) by omega), if_pos (show (t : Int) ≤ g[i].f0 by omega), if_pos c3, w1,
   if_pos (show 0 ≤ g[i].f0 by omega), if_pos (show g[i].f0 ≤ g[i].f0 + g[i].f1 by omega), if_pos (show g[i].f0 + g[i].f1 ≤ (a.length : Int) by omega), Int.toNat_natCast]
  refine Ev.bind (signed_ev 32 32 enc32 _ (fun s hm => hsa s (List.mem_of_mem_take (List.mem_of_mem_drop hm))) (by rw [List.length_drop, List.length_take]; omega)) ?_
  refine Ev.bind (signed_ev 45 45 enc45 _ (fun s hm => hsa s (List.mem_of_mem_take (List.mem_of_mem_drop hm))) (by rw [List.length_drop, List.length_take]; omega)) ?_
  refine Ev.bind (signed_ev 43 43 enc43 _ (fun s hm => hsg _ hmem s hm) (by omega)) ?_
  have hcat : ([out, sgs 32 ((a.take g[i].f0.toNat).drop t), sgs 45 ((a.take (g[i].f0 + g[i].f1).toNat).drop g[i].f0.toNat), sgs 43 g[i].f2] : List (List ByteArray)).flatten
    = out ++ (sgs 32 ((a.take g[i].f0.toNat).drop t) ++ (sgs 45 ((a.take (g[i].f0 + g[i].f1).toNat).drop g[i].f0.toNat) ++ sgs 43 g[i].f2)) := by simp
  have hL := congrArg List.length hG2
  simp only [blks, blkLines, List.length_append] at hL
  simp only [slices_Concat_string_string.f, hcat]
  rw [if_pos (by simp only [List.length_append]; omega)]
  simp only [Option.bind_some]
  rw [show g[i].f0 + g[i].f1 = (((g[i].f0 + g[i].f1).toNat : Nat) : Int) by omega]
  refine ih (i + 1) (g[i].f0 + g[i].f1).toNat (g[i].f0 + g[i].f1 + 1) en _ (by omega) (by omega) (by omega) (by omega) (by omega) ho' hen ?_ ?_ (by omega)
  ·cases hq : g.drop (i + 1) with
   | nil => rw [hq] at hm; simp only [endE] at hm; show (en : Int) = _; omega
   | cons p l => rw [hq] at hm; exact hm
  ·rw [← hG2]
   simp only [blks, blkLines, List.append_assoc, Int.toNat_natCast]
theorem Group_ev (a : List ByteArray) (p : Ed) (l : List Ed) (ar more fr : Int) (ha : a.length ≤ 274877906944) (hg : l.length ≤ 274877906944) (hsa : ∀ s ∈ a, s.size ≤ 4611686018427387904) (hsg : ∀ e ∈ p :: l, ∀ s ∈ e.f2, s.size ≤ 4611686018427387904)
  (har : 0 ≤ ar) (har2 : ar ≤ 1000) (hm0 : -4398046511104 ≤ more) (hm1 : more ≤ 4398046511104) (hf : 0 ≤ fr) (ho : okFrom fr a.length (p :: l) = true) (hi : insE (p :: l) ≤ 274877906944) (hdf : diffE (p :: l) ≤ 274877906944) :
  Ev (fun k => hunk_group.f k a (p :: l) ar more) ((hunkOf a ar more p l).f0, (hunkOf a ar more p l).f1, (hunkOf a ar more p l).f2, (hunkOf a ar more p l).f3, (hunkOf a ar more p l).f4) := by
 have hlast := okFrom_last l p fr ho
 obtain ⟨c1, c2, c3, c4, c5, ho'⟩ := okFrom_cons ho
 have ho0 : okFrom p.f0 a.length (p :: l) = true := by
  simp only [okFrom, Bool.and_eq_true, decide_eq_true_eq]
  exact ⟨⟨Int.le_refl _, c2, c3, c4, c5⟩, ho'⟩
 have hft : (fromH p ar : Int) ≤ p.f0 := by unfold fromH; omega
 have hco := blks_counts a l p p.f0 (fromH p ar) hft ho0
 have htl := tail_len a ar p l fr har hf ho
 have hLen : ((p :: l : List Ed).length : Int) = (l.length : Int) + 1 := by simp
 have w0 : wrap64 (((p :: l : List Ed).length : Int) - 1) = ((l.length : Nat) : Int) := by rw [w_in (by omega) (by omega)]; omega
 have hlt : l.length < (p :: l).length := by simp
 have hge := endE_get l p
 have hr0 : rd_T51 (p :: l) 0 = p := rfl
 unfold hunk_group.f
 simp only [w0, if_pos (show 0 ≤ ((l.length : Nat) : Int) by omega), if_pos (show ((l.length : Nat) : Int) < (((p :: l).length : Nat) : Int) by omega), if_pos (show 0 < (((p :: l).length : Nat) : Int) by omega), rdE_at hlt, hr0]
 rw [w_in (x := (p :: l)[l.length].f0 + (p :: l)[l.length].f1) (by omega) (by omega), ← hge, w_in (x := endE p l + ar) (by omega) (by omega), w_in (x := p.f0 - ar) (by omega) (by omega)]
 have e1 : mx 0 (p.f0 - ar) = (fromH p ar : Int) := by unfold mx fromH; omega
 have e2 : mn (a.length : Int) (endE p l + ar) = (toH a p l ar : Int) := by unfold mn toH; omega
 rw [e1, e2, w_in (x := (fromH p ar : Int) + more) (by omega) (by omega)]
 have hlen : (linesH a ar p l).length ≤ 1099511627776 := by
  have h := blkLines_len (blks a (fromH p ar) (p :: l)) ((a.take (toH a p l ar)).drop (endE p l).toNat)
  unfold linesH
  omega
 have hcn := cntL_linesH a ar p l fr har hf ho
 have h := Group_l0 a (p :: l) (by omega) (by simp only [List.length_cons]; omega) hsa hsg (fromH p ar) 0 (fromH p ar + more) 0 (toH a p l ar) (by omega) (linesH a ar p l) hlen _ hcn _ 0 (fromH p ar) p.f0 (endE p l).toNat [] rfl (by omega) (by omega) hft (by omega) ho0 (by omega) (by show (_ : Int) = endE p l; omega) rfl (by rw [List.drop_zero]; omega)
 exact h
end Go.Proofs.Ytlabiajcohmjhaa.Pr

namespace Go.Proofs.Ytlabiajcohmjhaa.Pr
open Go.RowKit Go.Proofs.YtlabiajcohmjhaaW.PrintWords Go.Proofs.YtlabiajcohmjhaaW.PrintLast Go.Proofs.YtlabiajcohmjhaaW.PrintMore
set_option linter.unusedVariables false
set_option linter.unusedSimpArgs false
def grp (ar : Int) (p : Ed) : List Ed → List Ed × List Ed
 | [] => ([], [])
 | e :: l => if e.f0 - p.f0 - p.f1 ≤ 2 * ar then (e :: (grp ar e l).1, (grp ar e l).2) else ([], e :: l)
theorem grp_app (ar : Int) : ∀ (l : List Ed) (p : Ed), (grp ar p l).1 ++ (grp ar p l).2 = l
 | [], p => rfl
 | e :: l, p => by
  have ih := grp_app ar l e
  rw [grp]
  split
  ·show e :: ((grp ar e l).1 ++ (grp ar e l).2) = _
   rw [ih]
  ·rfl
theorem grp_len (ar : Int) (l : List Ed) (p : Ed) : (grp ar p l).2.length ≤ l.length := by
 have h := congrArg List.length (grp_app ar l p)
 rw [List.length_append] at h
 omega
def makeH (a : List ByteArray) (ar : Int) (more : Int) : List Ed → List Hk
 | [] => []
 | p :: l => hunkOf a ar more p (grp ar p l).1 :: makeH a ar (more + diffE (p :: (grp ar p l).1)) (grp ar p l).2
termination_by l => l.length
decreasing_by
 have := grp_len ar l p
 simp only [List.length_cons]; omega
theorem okFrom_split {many : Int} : ∀ (l : List Ed) (p : Ed) (y : List Ed) (fr : Int), okFrom fr many (p :: (l ++ y)) = true → okFrom fr many (p :: l) = true ∧ okFrom (endE p l + 1) many y = true
 | [], p, y, fr, h => by
  obtain ⟨c1, c2, c3, c4, c5, h'⟩ := okFrom_cons h
  refine ⟨?_, h'⟩
  simp only [okFrom, Bool.and_true, decide_eq_true_eq]
  exact ⟨c1, c2, c3, c4, c5⟩
 | e :: l, p, y, fr, h => by
  obtain ⟨c1, c2, c3, c4, c5, h'⟩ := okFrom_cons h
  have ih := okFrom_split l e y _ h'
  refine ⟨?_, ih.2⟩
  rw [okFrom, ih.1, Bool.and_true, decide_eq_true_eq]
  exact ⟨c1, c2, c3, c4, c5⟩
def delE : List Ed → Int
 | [] => 0
 | e :: l => e.f1 + delE l
theorem diffE_eq : ∀ l, diffE l = (insE l : Int) - delE l
 | [] => rfl
 | e :: l => by have := diffE_eq l; simp only [diffE, insE, delE]; push_cast; omega
theorem insE_app : ∀ x y, insE (x ++ y) = insE x + insE y
 | [], y => by simp [insE]
 | e :: x, y => by have := insE_app x y; simp only [List.cons_append, insE]; omega
theorem delE_app : ∀ x y, delE (x ++ y) = delE x + delE y
 | [], y => by simp [delE]
 | e :: x, y => by have := delE_app x y; simp only [List.cons_append, delE]; omega
theorem delE_le {many : Int} : ∀ (l : List Ed) (p : Ed) (fr : Int), okFrom fr many (p :: l) = true → 0 ≤ delE (p :: l) ∧ delE (p :: l) ≤ endE p l - p.f0
 | [], p, fr, h => by obtain ⟨c1, c2, c3, c4, c5, h'⟩ := okFrom_cons h; simp only [delE, endE]; omega
 | e :: l, p, fr, h => by
  obtain ⟨c1, c2, c3, c4, c5, h'⟩ := okFrom_cons h
  have ih := delE_le l e _ h'
  obtain ⟨d1, _, _, _, _, _⟩ := okFrom_cons h'
  rw [delE, endE]; omega
theorem delE_nonneg {many fr : Int} (l : List Ed) (h : okFrom fr many l = true) : 0 ≤ delE l := by
 cases l with
 | nil => simp [delE]
 | cons p l => exact (delE_le l p fr h).1
theorem okFrom_each {many : Int} : ∀ (l : List Ed) (fr : Int), okFrom fr many l = true → ∀ e ∈ l, fr ≤ e.f0 ∧ 0 ≤ e.f1 ∧ e.f0 + e.f1 ≤ many
 | [], fr, h, e, he => by cases he
 | p :: l, fr, h, e, he => by
  obtain ⟨c1, c2, c3, c4, c5, h'⟩ := okFrom_cons h
  rcases List.mem_cons.1 he with rfl | he
  ·omega
  ·have := okFrom_each l _ h' e he; omega
theorem Make_l1 (a : List ByteArray) (l : List Ed) (ar more : Int) (out : List Hk) (har : 0 ≤ ar) (har2 : ar ≤ 1000) (hl : l.length ≤ 1099511627776) (hb : ∀ e ∈ l, 0 ≤ e.f0 ∧ 0 ≤ e.f1 ∧ e.f0 + e.f1 ≤ 1099511627776) (r : List Hk × Int) :
  ∀ (d n : Nat) (hd : l.length - n = d) (h1 : 1 ≤ n) (h2 : n ≤ l.length),
  (∀ m, m = n + (grp ar (l[n - 1]'(by omega)) (l.drop n)).1.length → m ≤ l.length → Ev (fun k => (hunk_group.f k a (l.take m) ar more).bind fun bt => (if out.length < 2513169434916 then (hunk_Make.l0 k a (l.drop m) ar (out ++ [(⟨bt.1, bt.2.1, bt.2.2.1, bt.2.2.2.1, bt.2.2.2.2⟩ : Hk)]) (wrap64 (more + (wrap64 (bt.2.2.2.1 - bt.2.1))))) else none)) r) →
  Ev (fun k => hunk_Make.l1 k a l ar out more (n : Int)) r := by
 intro d
 induction d with
 | zero =>
  intro n hd h1 h2 rest
  refine Ev.step (fun _ => hunk_Make.l1.eq_2 ..) ?_
  simp only [if_neg (show ¬ (n : Int) < (l.length : Int) by omega), if_pos (show 0 ≤ (n : Int) by omega), if_pos (show (n : Int) ≤ (l.length : Int) by omega), Int.toNat_natCast]
  refine rest n ?_ h2
  rw [List.drop_of_length_le (by omega)]
  rfl
 | succ d ih =>
  intro n hd h1 h2 rest
  refine Ev.step (fun _ => hunk_Make.l1.eq_2 ..) ?_
  have h0 : n < l.length := by omega
  have hq : n - 1 < l.length := by omega
  have b1 := hb _ (List.getElem_mem h0)
  have b2 := hb _ (List.getElem_mem hq)
  have wn : wrap64 ((n : Int) - 1) = ((n - 1 : Nat) : Int) := by rw [w_in (by omega) (by omega)]; omega
  have w2 : wrap64 (2 * ar) = 2 * ar := w_in (by omega) (by omega)
  simp only [if_pos (show (n : Int) < (l.length : Int) by omega), if_pos (show 0 ≤ (n : Int) by omega), wn, if_pos (show 0 ≤ ((n - 1 : Nat) : Int) by omega), if_pos (show ((n - 1 : Nat) : Int) < (l.length : Int) by omega), rdE_at h0, rdE_at hq, w2, w_succ h0 (show l.length ≤ 4611686018427387904 by omega), if_pos (show (n : Int) ≤ (l.length : Int) by omega), Int.toNat_natCast]
  rw [w_in (x := l[n].f0 - l[n - 1].f0) (by omega) (by omega), w_in (x := l[n].f0 - l[n - 1].f0 - l[n - 1].f1) (by omega) (by omega)]
  by_cases c : l[n].f0 - l[n - 1].f0 - l[n - 1].f1 ≤ 2 * ar
  ·simp only [if_pos c]
   refine ih (n + 1) (by omega) (by omega) (by omega) (fun m hm hm2 => rest m ?_ hm2)
   rw [List.drop_eq_getElem_cons h0, grp, if_pos c]
   simp only [Nat.add_sub_cancel] at hm
   simp only [List.length_cons]
   omega
  ·simp only [if_neg c]
   refine rest n ?_ h2
   rw [List.drop_eq_getElem_cons h0, grp, if_neg c]
   rfl
theorem Make_l0 (a : List ByteArray) (ar : Int) (ha : a.length ≤ 274877906944) (hsa : ∀ s ∈ a, s.size ≤ 4611686018427387904) (har : 0 ≤ ar) (har2 : ar ≤ 1000) :
  ∀ (N : Nat) (l : List Ed) (more fr : Int) (out : List Hk), l.length ≤ N → l.length ≤ 274877906944 → (∀ e ∈ l, ∀ s ∈ e.f2, s.size ≤ 4611686018427387904) → 0 ≤ fr → okFrom fr a.length l = true → insE l ≤ 274877906944 →
   more + insE l ≤ 1099511627776 → -1099511627776 ≤ more - delE l → out.length + l.length ≤ 1099511627776 →
  Ev (fun k => hunk_Make.l0 k a l ar out more) (out ++ makeH a ar more l, 0) := by
 intro N
 induction N with
 | zero =>
  intro l more fr out hN hl hs hf ho hi hm1 hm2 hout
  have e : l = [] := List.eq_nil_of_length_eq_zero (by omega)
  subst e
  refine Ev.step (fun _ => hunk_Make.l0.eq_2 ..) ?_
  simp only [List.length_nil, if_neg (show ¬ ((0 : Nat) : Int) > 0 by omega), makeH, List.append_nil]
  exact Ev.now _
 | succ N ih =>
  intro l more fr out hN hl hs hf ho hi hm1 hm2 hout
  cases l with
  | nil =>
   refine Ev.step (fun _ => hunk_Make.l0.eq_2 ..) ?_
   simp only [List.length_nil, if_neg (show ¬ ((0 : Nat) : Int) > 0 by omega), makeH, List.append_nil]
   exact Ev.now _
  | cons p l =>
   have happ := grp_app ar l p
   have hsp := okFrom_split (many := a.length) (grp ar p l).1 p (grp ar p l).2 fr (by rw [happ]; exact ho)
   have hlen := congrArg List.length happ
   have hin : insE (p :: l) = insE (p :: (grp ar p l).1) + insE (grp ar p l).2 := by rw [← insE_app, List.cons_append, happ]
   have hde : delE (p :: l) = delE (p :: (grp ar p l).1) + delE (grp ar p l).2 := by rw [← delE_app, List.cons_append, happ]
   have hd1 := delE_le _ _ _ hsp.1
   have hd2 := delE_nonneg _ hsp.2
   have hdf := diffE_eq (p :: (grp ar p l).1)
   have hla := okFrom_last _ _ _ hsp.1
   rw [List.length_append] at hlen
   simp only [List.length_cons] at hN hl hout
   refine Ev.step (fun _ => hunk_Make.l0.eq_2 ..) ?_
   simp only [if_pos (show (((p :: l : List Ed).length : Nat) : Int) > 0 by simp only [List.length_cons]; omega)]
   refine Make_l1 a (p :: l) ar more out har har2 (by simp only [List.length_cons]; omega) (fun e he => by have := okFrom_each _ _ ho e he; omega) _ _ 1 rfl (Nat.le_refl _) (by simp only [List.length_cons]; omega) ?_
   intro m hm hm2
   have hm' : m = 1 + (grp ar p l).1.length := hm
   have hta : (p :: l).take m = p :: (grp ar p l).1 := by
    rw [hm', Nat.add_comm, List.take_succ_cons]
    congr 1
    have h := List.take_left (l₁ := (grp ar p l).1) (l₂ := (grp ar p l).2)
    rwa [happ] at h
   have htd : (p :: l).drop m = (grp ar p l).2 := by
    rw [hm', Nat.add_comm, List.drop_succ_cons]
    have h := List.drop_left (l₁ := (grp ar p l).1) (l₂ := (grp ar p l).2)
    rwa [happ] at h
   simp only [hta, htd]
   have hmem : ∀ e ∈ p :: (grp ar p l).1, e ∈ p :: l := fun e he => by
    rw [← happ]
    rcases List.mem_cons.1 he with rfl | he
    ·simp
    ·simp [he]
   have hmem2 : ∀ e ∈ (grp ar p l).2, e ∈ p :: l := fun e he => by
    rw [← happ]; simp [he]
   refine Ev.bind (Group_ev a p (grp ar p l).1 ar more fr ha (by omega) hsa (fun e he => hs e (hmem e he)) har har2 (by omega) (by omega) hf hsp.1 (by omega) (by omega)) ?_
   simp only [if_pos (show out.length < 2513169434916 by omega)]
   have hbn : (hunkOf a ar more p (grp ar p l).1).f3 - (hunkOf a ar more p (grp ar p l).1).f1 = diffE (p :: (grp ar p l).1) := by simp only [hunkOf]; omega
   rw [hbn, w_in (x := diffE (p :: (grp ar p l).1)) (by omega) (by omega), w_in (x := more + diffE (p :: (grp ar p l).1)) (by omega) (by omega)]
   have h := ih (grp ar p l).2 (more + diffE (p :: (grp ar p l).1)) (endE p (grp ar p l).1 + 1) (out ++ [hunkOf a ar more p (grp ar p l).1]) (by omega) (by omega) (fun e he => hs e (hmem2 e he)) (by omega) hsp.2 (by omega) (by omega) (by omega) (by rw [List.length_append, List.length_singleton]; omega)
   rw [makeH]
   rw [List.append_assoc] at h
   exact h
theorem Make_ev (a : List ByteArray) (l : List Ed) (ar : Int) (ha : a.length ≤ 274877906944) (hl : l.length ≤ 274877906944) (hsa : ∀ s ∈ a, s.size ≤ 4611686018427387904) (hs : ∀ e ∈ l, ∀ s ∈ e.f2, s.size ≤ 4611686018427387904)
  (har : 0 ≤ ar) (har2 : ar ≤ 1000) (ho : okFrom 0 a.length l = true) (hi : insE l ≤ 274877906944) : Ev (fun k => hunk_Make.f k a l ar) (makeH a ar 0 l, 0) := by
 unfold hunk_Make.f
 have hr := Right_ev (a.length : Int) l (by omega) (by omega) (by omega)
 rw [ho] at hr
 refine Ev.bind hr ?_
 simp only [if_true, if_neg (show ¬ ar < 0 by omega), decide_eq_false (show ¬ ar > 1000 by omega)]
 refine Ev.step (fun _ => hunk_Make.j0.eq_2 ..) ?_
 simp only [Bool.false_eq_true, if_false]
 have hde : delE l ≤ a.length := by
  cases l with
  | nil => simp [delE]
  | cons p l => have h1 := delE_le l p 0 ho; have h2 := okFrom_last l p 0 ho; obtain ⟨c1, _, _, _, _, _⟩ := okFrom_cons ho; omega
 have h := Make_l0 a ar ha hsa har har2 l.length l 0 0 [] (Nat.le_refl _) hl hs (by omega) ho hi (by omega) (by omega) (by simp; omega)
 exact h
structure HFact (h : Hk) (g tg : List Ed) : Prop where
 right : Ev (fun k => hunk_Right.f k h.f0 h.f1 h.f2 h.f3 h.f4) true
 edits : Ev (fun k => hunk_Edits.f k h.f0 h.f1 h.f2 h.f3 h.f4) g
 turn : ∃ L : List ByteArray, Ev (fun k => hunk_Turn.f k h.f0 h.f1 h.f2 h.f3 h.f4) (h.f2, h.f3, h.f0, h.f1, L) ∧ Ev (fun k => hunk_Edits.f k h.f2 h.f3 h.f0 h.f1 L) tg
 big : 0 ≤ h.f0 ∧ 0 ≤ h.f1 ∧ h.f0 + h.f1 ≤ 274877906944
end Go.Proofs.Ytlabiajcohmjhaa.Pr

namespace Go.Proofs.Ytlabiajcohmjhaa.Pr
set_option linter.unusedVariables false
set_option linter.unusedSimpArgs false
end Go.Proofs.Ytlabiajcohmjhaa.Pr

namespace Go.Proofs.Ytlabiajcohmjhaa.Pr
set_option linter.unusedVariables false
set_option linter.unusedSimpArgs false
end Go.Proofs.Ytlabiajcohmjhaa.Pr

namespace Go.Proofs.Ytlabiajcohmjhaa.Pr
set_option linter.unusedVariables false
set_option linter.unusedSimpArgs false
open List (Sublist)
end Go.Proofs.Ytlabiajcohmjhaa.Pr
-- shrunk
