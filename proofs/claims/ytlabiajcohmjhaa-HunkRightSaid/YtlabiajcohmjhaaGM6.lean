/-
Several plain texts in one.
-/
import Derived.Test.YtlabiajcohmjhaaGM5
import Derived.Test.YtlabiajcohmjhaaD7b
import Derived.Test.YtlabiajcohmjhaaD9
import Derived.Test.YtlabiajcohmjhaaD10
import Derived.Test.YtlabiajcohmjhaaD11
namespace Go.Proofs.Ytlabiajcohmjhaa.Pr
open Go.RowKit Go.Proofs.YtlabiajcohmjhaaW.PrintWords Go.Proofs.YtlabiajcohmjhaaW.PrintLast Go.Proofs.YtlabiajcohmjhaaW.PrintMore
set_option linter.unusedVariables false
set_option linter.unusedSimpArgs false
def manyL (z : Int) : List ByteArray → Nat
 | [] => 0
 | s :: l => (if 0 < s.size ∧ (bt s 0 = 32 ∨ bt s 0 = z) then 1 else 0) + manyL z l
theorem Many_l0 (l : List ByteArray) (z : Int) (hn : l.length ≤ 1099511627776) : ∀ (d i : Nat) (n : Int), l.length - i = d → i ≤ l.length → 0 ≤ n → n ≤ i → Ev (fun k => grapevineref05_Many.l0 k l z n (i : Int)) (n + manyL z (l.drop i)) := by
 intro d
 induction d with
 | zero =>
  intro i n hd hi h1 h2
  refine Ev.step (fun _ => grapevineref05_Many.l0.eq_2 ..) ?_
  simp only [if_neg (show ¬ (i : Int) < (l.length : Int) by omega)]
  rw [List.drop_of_length_le (by omega)]
  simp only [manyL, Int.natCast_zero, Int.add_zero]
  exact Ev.now _
 | succ d ih =>
  intro i n hd hi h1 h2
  refine Ev.step (fun _ => grapevineref05_Many.l0.eq_2 ..) ?_
  have h0 : i < l.length := by omega
  rw [List.drop_eq_getElem_cons h0]
  simp only [if_pos (show (i : Int) < (l.length : Int) by omega), if_pos (show 0 ≤ (i : Int) by omega), rdS_at h0, w_succ h0 (show l.length ≤ 4611686018427387904 by omega), w_in (show -9223372036854775808 ≤ n + 1 by omega) (show n + 1 ≤ 9223372036854775807 by omega), manyL]
  have hx := ih (i + 1) (n + 1) (by omega) (by omega) (by omega) (by omega)
  have hy := ih (i + 1) n (by omega) (by omega) (by omega) (by omega)
  by_cases c1 : (l[i].size : Int) > 0
  ·simp only [if_pos c1, if_pos (show (0 : Int) < (l[i].size : Int) by omega)]
   by_cases c2 : bt l[i] 0 = 32
   ·simp only [if_pos c2]
    rw [if_pos ⟨by omega, Or.inl c2⟩]
    rw [show n + (((1 + manyL z (l.drop (i + 1)) : Nat)) : Int) = n + 1 + (manyL z (l.drop (i + 1)) : Int) by push_cast; omega]
    exact hx
   simp only [if_neg c2]
   by_cases c3 : bt l[i] 0 = z
   ·simp only [if_pos c3]
    rw [if_pos ⟨by omega, Or.inr c3⟩]
    rw [show n + (((1 + manyL z (l.drop (i + 1)) : Nat)) : Int) = n + 1 + (manyL z (l.drop (i + 1)) : Int) by push_cast; omega]
    exact hx
   ·simp only [if_neg c3]
    rw [if_neg (by rintro ⟨_, h | h⟩; exact c2 h; exact c3 h), Nat.zero_add]
    exact hy
  ·simp only [if_neg c1]
   rw [if_neg (by rintro ⟨h, _⟩; omega), Nat.zero_add]
   exact hy
theorem Many_ev (l : List ByteArray) (z : Int) (hn : l.length ≤ 1099511627776) : Ev (fun k => grapevineref05_Many.f k l z) (manyL z l : Int) := by
 unfold grapevineref05_Many.f
 have h := Many_l0 l z hn _ 0 0 rfl (by omega) (by omega) (by omega)
 simpa using h
def okL (came : Bool) : List ByteArray → Bool
 | [] => true
 | s :: l => decide (0 < s.size ∧ (bt s 0 = 32 ∨ bt s 0 = 43 ∨ bt s 0 = 45) ∧ ¬ (bt s 0 = 45 ∧ came = true)) && okL (decide (bt s 0 = 43)) l
theorem cntL_ok : ∀ (l : List ByteArray) (came : Bool) (an bn : Int), (cntL came an bn l).2.2 = okL came l ∧ (okL came l = true → cntL came an bn l = (an + manyL 45 l, bn + manyL 43 l, true))
 | [], came, an, bn => ⟨rfl, fun _ => by simp [cntL, manyL]⟩
 | s :: l, came, an, bn => by
  rw [cntL, okL]
  by_cases h0 : s.toList = ([] : List UInt8)
  ·have hs : ¬ 0 < s.size := by
    rw [nil_toList, toList_iff] at h0
    subst h0
    simp
   rw [if_pos h0, decide_eq_false (fun h => hs h.1), Bool.false_and]
   exact ⟨rfl, fun h => absurd h (by simp)⟩
  have hp := ne_size h0
  rw [if_neg h0]
  by_cases h1 : bt s 0 = 45 ∧ came = true
  ·rw [if_pos h1, decide_eq_false (fun h => h.2.2 h1), Bool.false_and]
   exact ⟨rfl, fun h => absurd h (by simp)⟩
  rw [if_neg h1]
  by_cases b32 : bt s 0 = 32
  ·have ih := cntL_ok l false (an + 1) (bn + 1)
   rw [if_pos b32, decide_eq_true ⟨hp, Or.inl b32, h1⟩, Bool.true_and, decide_eq_false (by omega)]
   refine ⟨ih.1, fun h => ?_⟩
   rw [ih.2 h, manyL, manyL, if_pos ⟨hp, Or.inl b32⟩, if_pos ⟨hp, Or.inl b32⟩]
   congr 1
   ·push_cast; omega
   ·congr 1; push_cast; omega
  rw [if_neg b32]
  by_cases b43 : bt s 0 = 43
  ·have ih := cntL_ok l true an (bn + 1)
   rw [if_pos b43, decide_eq_true ⟨hp, Or.inr (Or.inl b43), h1⟩, Bool.true_and, decide_eq_true b43]
   refine ⟨ih.1, fun h => ?_⟩
   rw [ih.2 h, manyL, manyL, if_neg (by rintro ⟨_, h | h⟩ <;> omega), if_pos ⟨hp, Or.inr b43⟩, Nat.zero_add]
   congr 1
   congr 1; push_cast; omega
  rw [if_neg b43]
  by_cases b45 : bt s 0 = 45
  ·have ih := cntL_ok l false (an + 1) bn
   rw [if_pos b45, decide_eq_true ⟨hp, Or.inr (Or.inr b45), h1⟩, Bool.true_and, decide_eq_false (by omega)]
   refine ⟨ih.1, fun h => ?_⟩
   rw [ih.2 h, manyL, manyL, if_pos ⟨hp, Or.inr b45⟩, if_neg (by rintro ⟨_, h | h⟩ <;> omega), Nat.zero_add]
   congr 1
   push_cast; omega
  ·rw [if_neg b45, decide_eq_false (by rintro ⟨_, h | h | h, _⟩ <;> omega), Bool.false_and]
   exact ⟨rfl, fun h => absurd h (by simp)⟩
theorem okL_true {came : Bool} {s : ByteArray} {l : List ByteArray} (h : 0 < s.size ∧ (bt s 0 = 32 ∨ bt s 0 = 43 ∨ bt s 0 = 45) ∧ ¬ (bt s 0 = 45 ∧ came = true)) : okL came (s :: l) = okL (decide (bt s 0 = 43)) l := by
 rw [okL, decide_eq_true h, Bool.true_and]
theorem okL_false {came : Bool} {s : ByteArray} {l : List ByteArray} (h : ¬ (0 < s.size ∧ (bt s 0 = 32 ∨ bt s 0 = 43 ∨ bt s 0 = 45) ∧ ¬ (bt s 0 = 45 ∧ came = true))) : okL came (s :: l) = false := by
 rw [okL, decide_eq_false h, Bool.false_and]
theorem okD {came : Bool} {s : ByteArray} {l : List ByteArray} {Q : Prop} [Decidable Q] (h : ¬ (0 < s.size ∧ (bt s 0 = 32 ∨ bt s 0 = 43 ∨ bt s 0 = 45) ∧ ¬ (bt s 0 = 45 ∧ came = true))) : decide (okL came (s :: l) = true ∧ Q) = false :=
 decide_eq_false (fun hh => by rw [okL_false h] at hh; exact absurd hh.1 (by simp))
def rightL (A An B Bn : Int) (l : List ByteArray) : Bool := decide (okL false l = true ∧ 0 ≤ A ∧ 0 ≤ B ∧ An = manyL 45 l ∧ Bn = manyL 43 l)
theorem RRight_l0 (l : List ByteArray) (A An B Bn : Int) (hn : l.length ≤ 1099511627776) : ∀ (d i : Nat) (came : Bool), l.length - i = d → i ≤ l.length → (∀ j (hj : j < l.length), j < i → 0 < l[j].size) → (∀ (h : i - 1 < l.length), 0 < i → (came = decide (bt l[i - 1] 0 = 43))) → (i = 0 → came = false) →
  Ev (fun k => grapevineref05_Right.l0 k (i : Int) A An B Bn l) (decide (okL came (l.drop i) = true ∧ 0 ≤ A ∧ 0 ≤ B ∧ An = manyL 45 l ∧ Bn = manyL 43 l)) := by
 intro d
 induction d with
 | zero =>
  intro i came hd hi hs hc hc0
  refine Ev.step (fun _ => grapevineref05_Right.l0.eq_2 ..) ?_
  simp only [if_neg (show ¬ (i : Int) < (l.length : Int) by omega)]
  rw [List.drop_of_length_le (by omega)]
  by_cases hA : A ≥ 0
  ·simp only [if_pos hA]
   by_cases hB : B ≥ 0
   ·simp only [if_pos hB]
    refine Ev.bind (Many_ev l 45 hn) ?_
    by_cases hAn : An = manyL 45 l
    ·simp only [if_pos hAn]
     refine Ev.bind (Many_ev l 43 hn) ?_
     have e : (Bn == (manyL 43 l : Int)) = decide (okL came [] = true ∧ 0 ≤ A ∧ 0 ≤ B ∧ An = manyL 45 l ∧ Bn = manyL 43 l) := by
      rw [Bool.eq_iff_iff, beq_iff_eq, decide_eq_true_iff]
      exact ⟨fun h => ⟨rfl, hA, hB, hAn, h⟩, fun h => h.2.2.2.2⟩
     rw [e]
     exact Ev.now _
    ·simp only [if_neg hAn]
     rw [decide_eq_false (fun h => hAn h.2.2.2.1)]; exact Ev.now _
   ·simp only [if_neg hB]
    rw [decide_eq_false (fun h => hB h.2.2.1)]; exact Ev.now _
  ·simp only [if_neg hA]
   rw [decide_eq_false (fun h => hA h.2.1)]; exact Ev.now _
 | succ d ih =>
  intro i came hd hi hs hc hc0
  refine Ev.step (fun _ => grapevineref05_Right.l0.eq_2 ..) ?_
  have h0 : i < l.length := by omega
  rw [List.drop_eq_getElem_cons h0]
  simp only [if_pos (show (i : Int) < (l.length : Int) by omega), if_pos (show 0 ≤ (i : Int) by omega), rdS_at h0]
  by_cases hz : (l[i].size : Int) = 0
  ·simp only [if_pos hz]
   rw [okD (fun h => by have := h.1; omega)]
   exact Ev.now _
  simp only [if_neg hz, if_pos (show (0 : Int) < (l[i].size : Int) by omega)]
  have hp : 0 < l[i].size := by omega
  have key : ∀ bad : Bool, (bad = true ↔ ¬ (bt l[i] 0 = 32 ∨ bt l[i] 0 = 43 ∨ bt l[i] 0 = 45)) → Ev (fun k => grapevineref05_Right.j1 k (i : Int) l[i] bad A An B Bn l)
    (decide (okL came (l[i] :: l.drop (i + 1)) = true ∧ 0 ≤ A ∧ 0 ≤ B ∧ An = manyL 45 l ∧ Bn = manyL 43 l)) := by
   intro bad hbad
   refine Ev.step (fun _ => grapevineref05_Right.j1.eq_2 ..) ?_
   by_cases hb : bad = true
   ·simp only [if_pos hb]
    rw [okD (fun h => hbad.1 hb h.2.1)]
    exact Ev.now _
   have hsign : bt l[i] 0 = 32 ∨ bt l[i] 0 = 43 ∨ bt l[i] 0 = 45 := Classical.byContradiction fun h => hb (hbad.2 h)
   simp only [if_neg hb, w_succ h0 (show l.length ≤ 4611686018427387904 by omega)]
   have hnext : ¬ (bt l[i] 0 = 45 ∧ came = true) → Ev (fun k => grapevineref05_Right.l0 k ((i + 1 : Nat) : Int) A An B Bn l)
     (decide (okL came (l[i] :: l.drop (i + 1)) = true ∧ 0 ≤ A ∧ 0 ≤ B ∧ An = manyL 45 l ∧ Bn = manyL 43 l)) := by
    intro hcm
    rw [okL_true ⟨hp, hsign, hcm⟩]
    exact ih (i + 1) (decide (bt l[i] 0 = 43)) (by omega) (by omega) (fun j hj hji => by
     by_cases hji2 : j = i
     ·subst hji2; exact hp
     ·exact hs j hj (by omega)) (fun h _ => by simp only [Nat.add_sub_cancel]) (by omega)
   by_cases hi0 : (i : Int) > 0
   ·have hq : i - 1 < l.length := by omega
    have wq : wrap64 ((i : Int) - 1) = ((i - 1 : Nat) : Int) := by rw [w_in (by omega) (by omega)]; omega
    have hcm := hc hq (by omega)
    simp only [if_pos hi0, if_pos (show (0 : Int) < (l[i].size : Int) by omega)]
    by_cases b45 : bt l[i] 0 = 45
    ·have hpq := hs (i - 1) hq (by omega)
     simp only [if_pos b45, wq, if_pos (show (0 : Int) ≤ ((i - 1 : Nat) : Int) by omega), if_pos (show ((i - 1 : Nat) : Int) < (l.length : Int) by omega), rdS_at hq, if_pos (show (0 : Int) < (l[i - 1].size : Int) by omega)]
     by_cases b43 : bt l[i - 1] 0 = 43
     ·simp only [if_pos b43]
      rw [okD (fun h => h.2.2 ⟨b45, by rw [hcm]; exact decide_eq_true b43⟩)]
      exact Ev.now _
     ·simp only [if_neg b43]
      exact hnext (fun h => b43 (of_decide_eq_true (hcm ▸ h.2)))
    ·simp only [if_neg b45]
     exact hnext (fun h => b45 h.1)
   ·simp only [if_neg hi0]
    have := hc0 (by omega)
    exact hnext (fun h => by rw [this] at h; exact absurd h.2 (by simp))
  by_cases b32 : bt l[i] 0 = 32
  ·simp only [if_pos b32]
   exact key false ⟨fun h => absurd h (by simp), fun h => absurd (Or.inl b32) h⟩
  simp only [if_neg b32]
  by_cases b43 : bt l[i] 0 = 43
  ·simp only [if_pos b43]
   exact key false ⟨fun h => absurd h (by simp), fun h => absurd (Or.inr (Or.inl b43)) h⟩
  simp only [if_neg b43]
  refine key _ ⟨fun h => ?_, fun h => ?_⟩
  ·rw [bne_iff_ne] at h
   rintro (h1 | h1 | h1)
   ·exact b32 h1
   ·exact b43 h1
   ·exact h h1
  ·rw [bne_iff_ne]
   exact fun h1 => h (Or.inr (Or.inr h1))
theorem RRight_ev (A An B Bn : Int) (l : List ByteArray) (hn : l.length ≤ 1099511627776) : Ev (fun k => grapevineref05_Right.f k A An B Bn l) (rightL A An B Bn l) := by
 unfold grapevineref05_Right.f
 have h := RRight_l0 l A An B Bn hn _ 0 false rfl (by omega) (fun j hj h => by omega) (fun h h0 => by omega) (fun _ => rfl)
 exact h
theorem right_same (A An B Bn : Int) (l : List ByteArray) : decide ((cntL false 0 0 l).2.2 = true ∧ 0 ≤ A ∧ 0 ≤ B ∧ (cntL false 0 0 l).1 = An ∧ (cntL false 0 0 l).2.1 = Bn) = rightL A An B Bn l := by
 have h := cntL_ok l false 0 0
 unfold rightL
 rw [decide_eq_decide, h.1]
 constructor
 ·rintro ⟨h1, h2, h3, h4, h5⟩
  rw [h.2 h1] at h4 h5
  exact ⟨h1, h2, h3, by have h4' : (0 : Int) + (manyL 45 l : Int) = An := h4; omega, by have h5' : (0 : Int) + (manyL 43 l : Int) = Bn := h5; omega⟩
 ·rintro ⟨h1, h2, h3, h4, h5⟩
  rw [h.2 h1]
  exact ⟨h1, h2, h3, by show (0 : Int) + (manyL 45 l : Int) = An; omega, by show (0 : Int) + (manyL 43 l : Int) = Bn; omega⟩
end Go.Proofs.Ytlabiajcohmjhaa.Pr

namespace Go.Proofs.Ytlabiajcohmjhaa.Pr
open Go.RowKit Go.Proofs.YtlabiajcohmjhaaW.PrintWords Go.Proofs.YtlabiajcohmjhaaW.PrintLast Go.Proofs.YtlabiajcohmjhaaW.PrintMore
set_option linter.unusedVariables false
set_option linter.unusedSimpArgs false
def n32 : List ByteArray → Nat
 | [] => 0
 | s :: l => if bt s 0 = 32 then 0 else n32 l + 1
theorem n32_le : ∀ l, n32 l ≤ l.length
 | [] => Nat.le_refl _
 | s :: l => by have := n32_le l; simp only [n32, List.length_cons]; split <;> omega
def plusT : List ByteArray → List ByteArray
 | [] => []
 | s :: l => if bt s 0 = 43 then sg 45 (tl s) :: plusT l else plusT l
def minusT : List ByteArray → List ByteArray
 | [] => []
 | s :: l => if bt s 0 = 45 then sg 43 (tl s) :: minusT l else minusT l
theorem plusT_len : ∀ l, (plusT l).length ≤ l.length
 | [] => Nat.le_refl _
 | s :: l => by have := plusT_len l; simp only [plusT]; split <;> simp only [List.length_cons] <;> omega
theorem T_l1 (a0 a1 a2 a3 b0 b1 b2 b3 : Int) (l out : List ByteArray) (r : Int × Int × Int × Int × List ByteArray) (i : Nat) (hs : ∀ s ∈ l, 1 ≤ s.size) (hn : l.length ≤ 1099511627776) :
  ∀ (d j : Nat), l.length - j = d → j ≤ l.length → Ev (fun k => grapevineref05_Turn.j2 k (i : Int) ((j + n32 (l.drop j) : Nat) : Int) a0 a1 a2 a3 l b0 b1 b2 b3 out) r →
  Ev (fun k => grapevineref05_Turn.l1 k (i : Int) (j : Int) a0 a1 a2 a3 l b0 b1 b2 b3 out) r := by
 intro d
 induction d with
 | zero =>
  intro j hd hj rest
  refine Ev.step (fun _ => grapevineref05_Turn.l1.eq_2 ..) ?_
  simp only [if_neg (show ¬ (j : Int) < (l.length : Int) by omega)]
  rw [List.drop_of_length_le (by omega)] at rest
  exact rest
 | succ d ih =>
  intro j hd hj rest
  refine Ev.step (fun _ => grapevineref05_Turn.l1.eq_2 ..) ?_
  have h0 : j < l.length := by omega
  have hz := hs _ (List.getElem_mem h0)
  rw [List.drop_eq_getElem_cons h0, n32] at rest
  simp only [if_pos (show (j : Int) < (l.length : Int) by omega), if_pos (show 0 ≤ (j : Int) by omega), rdS_at h0, w_succ h0 (show l.length ≤ 4611686018427387904 by omega), if_pos (show (0 : Int) < (l[j].size : Int) by omega)]
  by_cases b : bt l[j] 0 = 32
  ·simp only [if_pos b]
   rw [if_pos b] at rest
   exact rest
  ·simp only [if_neg b]
   rw [if_neg b, show j + (n32 (l.drop (j + 1)) + 1) = j + 1 + n32 (l.drop (j + 1)) by omega] at rest
   exact ih (j + 1) (by omega) (by omega) rest
theorem T_l2 (a0 a1 a2 a3 b0 b1 b2 b3 : Int) (l : List ByteArray) (r : Int × Int × Int × Int × List ByteArray) (i e : Nat) (he : e ≤ l.length) (hs : ∀ s ∈ l, 1 ≤ s.size ∧ s.size ≤ 4611686018427387904) (hn : l.length ≤ 1099511627776) :
  ∀ (d j : Nat) (out : List ByteArray), e - j = d → j ≤ e → out.length + (e - j) ≤ 4398046511104 → Ev (fun k => grapevineref05_Turn.l3 k (e : Int) (i : Int) a0 a1 a2 a3 l b0 b1 b2 b3 (out ++ plusT ((l.take e).drop j))) r →
  Ev (fun k => grapevineref05_Turn.l2 k (i : Int) (e : Int) (j : Int) a0 a1 a2 a3 l b0 b1 b2 b3 out) r := by
 intro d
 induction d with
 | zero =>
  intro j out hd hj ho rest
  refine Ev.step (fun _ => grapevineref05_Turn.l2.eq_2 ..) ?_
  simp only [if_neg (show ¬ (j : Int) < (e : Int) by omega)]
  rw [List.drop_of_length_le (by rw [List.length_take]; omega), plusT, List.append_nil] at rest
  exact rest
 | succ d ih =>
  intro j out hd hj ho rest
  refine Ev.step (fun _ => grapevineref05_Turn.l2.eq_2 ..) ?_
  have h0 : j < l.length := by omega
  have hz := hs _ (List.getElem_mem h0)
  have hj2 : j < (l.take e).length := by rw [List.length_take]; omega
  rw [List.drop_eq_getElem_cons hj2, plusT, List.getElem_take] at rest
  have hsz : 1 + (l[j].extract 1 l[j].size).size ≤ 9223372036854775807 := by rw [ByteArray.size_extract]; omega
  simp only [if_pos (show (j : Int) < (e : Int) by omega), if_pos (show 0 ≤ (j : Int) by omega), if_pos (show (j : Int) < (l.length : Int) by omega), rdS_at h0, w_succ h0 (show l.length ≤ 4611686018427387904 by omega), if_pos (show (0 : Int) < (l[j].size : Int) by omega), if_pos (show (1 : Int) ≤ (l[j].size : Int) by omega), if_pos hsz, if_pos (show out.length < 8796093022208 by omega)]
  by_cases b : bt l[j] 0 = 43
  ·simp only [if_pos b]
   rw [if_pos b] at rest
   refine ih (j + 1) _ (by omega) (by omega) (by rw [List.length_append, List.length_singleton]; omega) ?_
   rw [List.append_assoc]
   exact rest
  ·simp only [if_neg b]
   rw [if_neg b] at rest
   exact ih (j + 1) out (by omega) (by omega) (by omega) rest
theorem T_l3 (a0 a1 a2 a3 b0 b1 b2 b3 : Int) (l : List ByteArray) (r : Int × Int × Int × Int × List ByteArray) (e : Nat) (he : e ≤ l.length) (hs : ∀ s ∈ l, 1 ≤ s.size ∧ s.size ≤ 4611686018427387904) (hn : l.length ≤ 1099511627776) :
  ∀ (d j : Nat) (out : List ByteArray), e - j = d → j ≤ e → out.length + (e - j) ≤ 4398046511104 → Ev (fun k => grapevineref05_Turn.l0 k ((e + 1 : Nat) : Int) a0 a1 a2 a3 l b0 b1 b2 b3 (out ++ (minusT ((l.take e).drop j) ++ (l.drop e).take 1))) r →
  Ev (fun k => grapevineref05_Turn.l3 k (e : Int) (j : Int) a0 a1 a2 a3 l b0 b1 b2 b3 out) r := by
 intro d
 induction d with
 | zero =>
  intro j out hd hj ho rest
  refine Ev.step (fun _ => grapevineref05_Turn.l3.eq_2 ..) ?_
  simp only [if_neg (show ¬ (j : Int) < (e : Int) by omega)]
  rw [List.drop_of_length_le (by rw [List.length_take]; omega), minusT, List.nil_append] at rest
  have we : wrap64 ((e : Int) + 1) = ((e + 1 : Nat) : Int) := by rw [w_in (by omega) (by omega)]; rfl
  by_cases c : e < l.length
  ·simp only [if_pos (show (e : Int) < (l.length : Int) by omega), if_pos (show 0 ≤ (e : Int) by omega), if_pos (show out.length < 8796093022208 by omega), we, rdS_at c]
   rw [List.drop_eq_getElem_cons c] at rest
   exact rest
  ·simp only [if_neg (show ¬ (e : Int) < (l.length : Int) by omega), we]
   rw [List.drop_of_length_le (by omega), List.take_nil, List.append_nil] at rest
   exact rest
 | succ d ih =>
  intro j out hd hj ho rest
  refine Ev.step (fun _ => grapevineref05_Turn.l3.eq_2 ..) ?_
  have h0 : j < l.length := by omega
  have hz := hs _ (List.getElem_mem h0)
  have hj2 : j < (l.take e).length := by rw [List.length_take]; omega
  rw [List.drop_eq_getElem_cons hj2, minusT, List.getElem_take] at rest
  have hsz : 1 + (l[j].extract 1 l[j].size).size ≤ 9223372036854775807 := by rw [ByteArray.size_extract]; omega
  simp only [if_pos (show (j : Int) < (e : Int) by omega), if_pos (show 0 ≤ (j : Int) by omega), if_pos (show (j : Int) < (l.length : Int) by omega), rdS_at h0, w_succ h0 (show l.length ≤ 4611686018427387904 by omega), if_pos (show (0 : Int) < (l[j].size : Int) by omega), if_pos (show (1 : Int) ≤ (l[j].size : Int) by omega), if_pos hsz, if_pos (show out.length < 8796093022208 by omega)]
  by_cases b : bt l[j] 0 = 45
  ·simp only [if_pos b]
   rw [if_pos b] at rest
   refine ih (j + 1) _ (by omega) (by omega) (by rw [List.length_append, List.length_singleton]; omega) ?_
   rw [List.append_assoc]
   exact rest
  ·simp only [if_neg b]
   rw [if_neg b] at rest
   exact ih (j + 1) out (by omega) (by omega) (by omega) rest
theorem T_round (a0 a1 a2 a3 b0 b1 b2 b3 : Int) (l : List ByteArray) (r : Int × Int × Int × Int × List ByteArray) (hs : ∀ s ∈ l, 1 ≤ s.size ∧ s.size ≤ 4611686018427387904) (hn : l.length ≤ 1099511627776) (i : Nat) (hi : i < l.length) (out L : List ByteArray) (hL : l.drop i = L) (ho : out.length ≤ 1099511627776)
  (rest : Ev (fun k => grapevineref05_Turn.l0 k ((i + n32 L + 1 : Nat) : Int) a0 a1 a2 a3 l b0 b1 b2 b3 (out ++ (plusT (L.take (n32 L)) ++ (minusT (L.take (n32 L)) ++ (L.drop (n32 L)).take 1)))) r) :
  Ev (fun k => grapevineref05_Turn.l0 k (i : Int) a0 a1 a2 a3 l b0 b1 b2 b3 out) r := by
 refine Ev.step (fun _ => grapevineref05_Turn.l0.eq_2 ..) ?_
 simp only [if_pos (show (i : Int) < (l.length : Int) by omega)]
 refine T_l1 a0 a1 a2 a3 b0 b1 b2 b3 l out r i (fun s h => (hs s h).1) hn _ i rfl (by omega) ?_
 rw [hL]
 have hle := n32_le L
 have hLl := congrArg List.length hL
 rw [List.length_drop] at hLl
 refine Ev.step (fun _ => grapevineref05_Turn.j2.eq_2 ..) ?_
 have htk : (l.take (i + n32 L)).drop i = L.take (n32 L) := by
  rw [List.drop_take, hL, Nat.add_sub_cancel_left]
 refine T_l2 a0 a1 a2 a3 b0 b1 b2 b3 l r i (i + n32 L) (by omega) hs hn _ i out rfl (by omega) (by omega) ?_
 rw [htk]
 have hp := plusT_len (L.take (n32 L))
 have hp2 : (L.take (n32 L)).length ≤ L.length := by rw [List.length_take]; omega
 refine T_l3 a0 a1 a2 a3 b0 b1 b2 b3 l r (i + n32 L) (by omega) hs hn _ i _ rfl (by omega) (by rw [List.length_append]; omega) ?_
 rw [htk, List.append_assoc, ← List.drop_drop, hL]
 exact rest
theorem n32_sgs (c : UInt8) (hc : (c.toNat : Int) ≠ 32) : ∀ (l R : List ByteArray), n32 (sgs c l ++ R) = l.length + n32 R
 | [], R => by simp [sgs]
 | s :: l, R => by
  have h := n32_sgs c hc l R
  show n32 (sg c s :: (sgs c l ++ R)) = _
  rw [n32, if_neg (by rw [sg_bt]; exact hc), h, List.length_cons]; omega
theorem plusT_app : ∀ x y, plusT (x ++ y) = plusT x ++ plusT y
 | [], y => rfl
 | s :: x, y => by simp only [List.cons_append, plusT, plusT_app x y]; split <;> rfl
theorem minusT_app : ∀ x y, minusT (x ++ y) = minusT x ++ minusT y
 | [], y => rfl
 | s :: x, y => by simp only [List.cons_append, minusT, minusT_app x y]; split <;> rfl
theorem plusT_43 : ∀ l, plusT (sgs 43 l) = sgs 45 l
 | [] => rfl
 | s :: l => by show plusT (sg 43 s :: sgs 43 l) = _; rw [plusT, if_pos (by rw [sg_bt]; rfl), tl_sg, plusT_43 l]; rfl
theorem plusT_45 : ∀ l, plusT (sgs 45 l) = []
 | [] => rfl
 | s :: l => by show plusT (sg 45 s :: sgs 45 l) = _; rw [plusT, if_neg (by rw [sg_bt]; decide), plusT_45 l]
theorem minusT_45 : ∀ l, minusT (sgs 45 l) = sgs 43 l
 | [] => rfl
 | s :: l => by show minusT (sg 45 s :: sgs 45 l) = _; rw [minusT, if_pos (by rw [sg_bt]; rfl), tl_sg, minusT_45 l]; rfl
theorem minusT_43 : ∀ l, minusT (sgs 43 l) = []
 | [] => rfl
 | s :: l => by show minusT (sg 43 s :: sgs 43 l) = _; rw [minusT, if_neg (by rw [sg_bt]; decide), minusT_43 l]
theorem blk_head : ∀ (bs : List Blk) (t : List ByteArray), BOk false bs → (blkLines bs t = [] ∧ blkLines (bs.map swapB) t = []) ∨
  ∃ (x : ByteArray) (bs' : List Blk) (t' : List ByteArray), blkLines bs t = sg 32 x :: blkLines bs' t' ∧ BOk true bs' ∧ blkLines (bs.map swapB) t = sg 32 x :: blkLines (bs'.map swapB) t'
 | [], [], h => Or.inl ⟨rfl, rfl⟩
 | [], s :: t, h => Or.inr ⟨s, [], t, rfl, trivial, rfl⟩
 | b :: bs, t, h => by
  right
  rcases h.2.1 with h1 | h1
  ·exact absurd h1 (by simp)
  ·obtain ⟨bk, bd, bi⟩ := b
   cases bk with
   | nil => exact absurd rfl h1
   | cons x k' => exact ⟨x, ⟨k', bd, bi⟩ :: bs, t, rfl, ⟨h.1, Or.inl rfl, h.2.2⟩, rfl⟩
theorem RTurn_blk (a0 a1 a2 a3 b0 b1 b2 b3 : Int) (l : List ByteArray) (hs : ∀ s ∈ l, 1 ≤ s.size ∧ s.size ≤ 4611686018427387904) (hn : l.length ≤ 274877906944) :
  ∀ (N : Nat) (bs : List Blk) (t : List ByteArray) (i : Nat) (out : List ByteArray), (blkLines bs t).length ≤ N → BOk true bs → l.drop i = blkLines bs t → out.length + (blkLines bs t).length ≤ 549755813888 →
  Ev (fun k => grapevineref05_Turn.l0 k (i : Int) a0 a1 a2 a3 l b0 b1 b2 b3 out) (b0, b1, b2, b3, out ++ blkLines (bs.map swapB) t) := by
 have stop : ∀ (i : Nat) (out : List ByteArray), l.length ≤ i → Ev (fun k => grapevineref05_Turn.l0 k (i : Int) a0 a1 a2 a3 l b0 b1 b2 b3 out) (b0, b1, b2, b3, out) := by
  intro i out h
  refine Ev.step (fun _ => grapevineref05_Turn.l0.eq_2 ..) ?_
  simp only [if_neg (show ¬ (i : Int) < (l.length : Int) by omega)]
  exact Ev.now _
 intro N
 induction N with
 | zero =>
  intro bs t i out hN hB hL ho
  have e : blkLines bs t = [] := List.eq_nil_of_length_eq_zero (by omega)
  have hl := congrArg List.length hL
  rw [e, List.length_drop, List.length_nil] at hl
  have e2 : blkLines (bs.map swapB) t = [] := by
   have h1 := blkLines_len (bs.map swapB) t
   have h2 := blkLines_len_eq bs t
   rw [oldN_swap, newN_swap] at h1
   rw [e, List.length_nil] at h2
   exact List.eq_nil_of_length_eq_zero (by omega)
  rw [e2, List.append_nil]
  exact stop i out (by omega)
 | succ N ih =>
  intro bs t i out hN hB hL ho
  have head : ∀ (x : ByteArray) (bs' : List Blk) (t' : List ByteArray), blkLines bs t = sg 32 x :: blkLines bs' t' → BOk true bs' → blkLines (bs.map swapB) t = sg 32 x :: blkLines (bs'.map swapB) t' →
    Ev (fun k => grapevineref05_Turn.l0 k (i : Int) a0 a1 a2 a3 l b0 b1 b2 b3 out) (b0, b1, b2, b3, out ++ blkLines (bs.map swapB) t) := by
   intro x bs' t' h1 h2 h3
   have hl := congrArg List.length hL
   have hl2 := congrArg List.length h1
   rw [List.length_drop] at hl
   rw [List.length_cons] at hl2
   have hn0 : n32 (blkLines bs t) = 0 := by rw [h1, n32, if_pos (by rw [sg_bt]; rfl)]
   refine T_round a0 a1 a2 a3 b0 b1 b2 b3 l _ hs (by omega) i (by omega) out _ hL (by omega) ?_
   rw [hn0, h3]
   simp only [List.take_zero, plusT, minusT, List.nil_append, List.drop_zero, Nat.add_zero]
   rw [h1]
   have e : out ++ (sg 32 x :: blkLines bs' t').take 1 = out ++ [sg 32 x] := rfl
   rw [e, show out ++ sg 32 x :: blkLines (bs'.map swapB) t' = (out ++ [sg 32 x]) ++ blkLines (bs'.map swapB) t' by rw [List.append_assoc]; rfl]
   refine ih bs' t' (i + 1) _ (by omega) h2 ?_ (by rw [List.length_append, List.length_singleton]; omega)
   rw [← List.drop_drop, hL, h1]
   rfl
  cases bs with
  | nil =>
   cases t with
   | nil =>
    have hl := congrArg List.length hL
    rw [List.length_drop] at hl
    have : out ++ blkLines (([] : List Blk).map swapB) [] = out := by simp [blkLines, sgs]
    rw [this]
    exact stop i out (by have h0 : (blkLines [] ([] : List ByteArray)).length = 0 := rfl; omega)
   | cons s t => exact head s [] t rfl trivial rfl
  | cons b bs =>
   obtain ⟨bk, bd, bi⟩ := b
   cases bk with
   | cons x k' => exact head x (⟨k', bd, bi⟩ :: bs) t rfl ⟨hB.1, Or.inl rfl, hB.2.2⟩ rfl
   | nil =>
    have hLe : blkLines (⟨[], bd, bi⟩ :: bs) t = sgs 45 bd ++ (sgs 43 bi ++ blkLines bs t) := rfl
    have hRe : blkLines ((⟨[], bd, bi⟩ :: bs : List Blk).map swapB) t = sgs 45 bi ++ (sgs 43 bd ++ blkLines (bs.map swapB) t) := rfl
    have hl := congrArg List.length hL
    rw [List.length_drop] at hl
    have hpos : 0 < bd.length + bi.length := by
     rcases hB.1 with h1 | h1
     ·have h2 : bd ≠ [] := h1; have := List.length_pos_iff.2 h2; omega
     ·have h2 : bi ≠ [] := h1; have := List.length_pos_iff.2 h2; omega
    have hlen : (blkLines (⟨[], bd, bi⟩ :: bs) t).length = bd.length + (bi.length + (blkLines bs t).length) := by rw [hLe]; simp only [List.length_append, sgs_len]
    have hn0 : n32 (blkLines bs t) = 0 := by
     rcases blk_head bs t hB.2.2 with ⟨h1, _⟩ | ⟨x, bs', t', h1, _, _⟩
     ·rw [h1]; rfl
     ·rw [h1, n32, if_pos (by rw [sg_bt]; rfl)]
    have hnn : n32 (blkLines (⟨[], bd, bi⟩ :: bs) t) = bd.length + bi.length := by rw [hLe, n32_sgs 45 (by decide), n32_sgs 43 (by decide), hn0]; omega
    have htk : (blkLines (⟨[], bd, bi⟩ :: bs) t).take (bd.length + bi.length) = sgs 45 bd ++ sgs 43 bi := by
     rw [hLe, ← List.append_assoc, List.take_append_of_le_length (by simp only [List.length_append, sgs_len]; omega), List.take_of_length_le (by simp only [List.length_append, sgs_len]; omega)]
    have hdk : (blkLines (⟨[], bd, bi⟩ :: bs) t).drop (bd.length + bi.length) = blkLines bs t := by
     rw [hLe, ← List.drop_drop, drop_sgs 45 bd _ _ rfl, drop_sgs 43 bi _ _ rfl]
    refine T_round a0 a1 a2 a3 b0 b1 b2 b3 l _ hs (by omega) i (by omega) out _ hL (by omega) ?_
    rw [hnn, htk, hdk, plusT_app, plusT_45, plusT_43, List.nil_append, minusT_app, minusT_45, minusT_43, List.append_nil, hRe]
    rcases blk_head bs t hB.2.2 with ⟨h1, h2⟩ | ⟨x, bs', t', h1, h2, h3⟩
    ·rw [h1, h2, List.take_nil]
     refine stop _ _ ?_
     rw [h1] at hlen
     have h0 : (([] : List ByteArray)).length = 0 := rfl
     omega
    ·rw [h1, h3]
     have e : out ++ (sgs 45 bi ++ (sgs 43 bd ++ (sg 32 x :: blkLines bs' t').take 1)) = out ++ (sgs 45 bi ++ (sgs 43 bd ++ [sg 32 x])) := rfl
     rw [e, show out ++ (sgs 45 bi ++ (sgs 43 bd ++ sg 32 x :: blkLines (bs'.map swapB) t')) = (out ++ (sgs 45 bi ++ (sgs 43 bd ++ [sg 32 x]))) ++ blkLines (bs'.map swapB) t' by simp only [List.append_assoc, List.cons_append, List.nil_append]]
     have hl2 := congrArg List.length h1
     rw [List.length_cons] at hl2
     refine ih bs' t' _ _ (by omega) h2 ?_ (by simp only [List.length_append, sgs_len, List.length_singleton]; omega)
     rw [show i + (bd.length + bi.length) + 1 = i + ((bd.length + bi.length) + 1) by omega, ← List.drop_drop, hL, ← List.drop_drop, hdk, h1]
     rfl
theorem RTurnH_ev (A An B Bn : Int) (bs : List Blk) (t : List ByteArray) (h : BOk true bs) (hs : ∀ s ∈ blkLines bs t, s.size ≤ 4611686018427387904) (hn : (blkLines bs t).length ≤ 274877906944) :
  Ev (fun k => grapevineref05_Turn.f k A An B Bn (blkLines bs t)) (B, Bn, A, An, blkLines (bs.map swapB) t) := by
 unfold grapevineref05_Turn.f
 have e := RTurn_blk A An B Bn B Bn A An (blkLines bs t) (fun s hm => ⟨blkLines_size bs t s hm, hs s hm⟩) hn _ bs t 0 [] (Nat.le_refl _) h rfl (by simp; omega)
 exact e
def stepOf (s : ByteArray) : Step := if bt s 0 = 32 then .keep else if bt s 0 = 45 then .del else .ins (tl s)
theorem rdE_last (out : List Ed) (h : out ≠ []) : rd_T51 out (((out.length - 1 : Nat)) : Int) = edLast out := rfl
theorem edL_mem {out : List Ed} (h : out ≠ []) : edLast out ∈ out := by
 have hl : 0 < out.length := List.length_pos_iff.2 h
 unfold edLast
 rw [List.getD_eq_getElem?_getD, List.getElem?_eq_getElem (by omega)]
 exact List.getElem_mem _
theorem REdits_l0 (a0 a1 a2 a3 : Int) (l : List ByteArray) (hs : ∀ s ∈ l, 1 ≤ s.size) (hn : l.length ≤ 1099511627776) : ∀ (d i : Nat) (at_ : Int) (op : Bool) (out : List Ed), l.length - i = d → i ≤ l.length → -4398046511104 ≤ at_ → at_ ≤ 4398046511104 + i → (op = true → out ≠ []) → out.length ≤ i → (∀ e ∈ out, 0 ≤ e.f1 ∧ e.f1 ≤ i ∧ e.f2.length ≤ i) →
  Ev (fun k => grapevineref05_Edits.l0 k out at_ op (i : Int) a0 a1 a2 a3 l) (edits at_ op out ((l.drop i).map stepOf)) := by
 intro d
 induction d with
 | zero =>
  intro i at_ op out hd hi h1 h2 h3 h4 h5
  refine Ev.step (fun _ => grapevineref05_Edits.l0.eq_2 ..) ?_
  simp only [if_neg (show ¬ (i : Int) < (l.length : Int) by omega)]
  rw [List.drop_of_length_le (by omega)]
  exact Ev.now _
 | succ d ih =>
  intro i at_ op out hd hi h1 h2 h3 h4 h5
  refine Ev.step (fun _ => grapevineref05_Edits.l0.eq_2 ..) ?_
  have h0 : i < l.length := by omega
  have hz := hs _ (List.getElem_mem h0)
  have wa : wrap64 (at_ + 1) = at_ + 1 := w_in (by omega) (by omega)
  rw [List.drop_eq_getElem_cons h0, List.map_cons]
  simp only [if_pos (show (i : Int) < (l.length : Int) by omega), if_pos (show 0 ≤ (i : Int) by omega), rdS_at h0, w_succ h0 (show l.length ≤ 4611686018427387904 by omega), if_pos (show (0 : Int) < (l[i].size : Int) by omega), if_pos (show (1 : Int) ≤ (l[i].size : Int) by omega), wa]
  by_cases b32 : bt l[i] 0 = 32
  ·have e : stepOf l[i] = .keep := by rw [stepOf, if_pos b32]
   simp only [if_pos b32, e, edits]
   exact ih (i + 1) (at_ + 1) false out (by omega) (by omega) (by omega) (by push_cast; omega) (by simp) (by omega) (fun x hx => by have := h5 x hx; push_cast; omega)
  simp only [if_neg b32]
  -- the list that is open
  have go : ∀ y : List Ed, y ≠ [] → y.length ≤ i + 1 → (∀ e ∈ y, 0 ≤ e.f1 ∧ e.f1 ≤ i ∧ e.f2.length ≤ i) → opened at_ op out = y →
    Ev (fun k => if bt l[i] 0 = 45 then (if 0 ≤ (wrap64 ((y.length : Int) - 1)) then (if (wrap64 ((y.length : Int) - 1)) < (y.length : Int) then (grapevineref05_Edits.l0 k (y.set ((wrap64 ((y.length : Int) - 1)) : Int).toNat (⟨(rd_T51 y (wrap64 ((y.length : Int) - 1))).f0, wrap64 (((rd_T51 y (wrap64 ((y.length : Int) - 1))).f1) + 1), (rd_T51 y (wrap64 ((y.length : Int) - 1))).f2⟩ : Ed)) (at_ + 1) true ((i + 1 : Nat) : Int) a0 a1 a2 a3 l) else (none)) else (none))
     else (if 0 ≤ (wrap64 ((y.length : Int) - 1)) then (if (wrap64 ((y.length : Int) - 1)) < (y.length : Int) then (if ((rd_T51 y (wrap64 ((y.length : Int) - 1))).f2).length < 8796093022208 then (grapevineref05_Edits.l0 k (y.set ((wrap64 ((y.length : Int) - 1)) : Int).toNat (⟨(rd_T51 y (wrap64 ((y.length : Int) - 1))).f0, (rd_T51 y (wrap64 ((y.length : Int) - 1))).f1, (((rd_T51 y (wrap64 ((y.length : Int) - 1))).f2) ++ [l[i].extract 1 l[i].size])⟩ : Ed)) at_ true ((i + 1 : Nat) : Int) a0 a1 a2 a3 l) else (none)) else (none)) else (none)))
     (edits at_ op out (stepOf l[i] :: (l.drop (i + 1)).map stepOf)) := by
   intro y hy hyl hyb hop
   have hyp : 0 < y.length := List.length_pos_iff.2 hy
   have wy : wrap64 ((y.length : Int) - 1) = ((y.length - 1 : Nat) : Int) := by rw [w_in (by omega) (by omega)]; omega
   have hm := hyb _ (edL_mem hy)
   have wf : wrap64 ((edLast y).f1 + 1) = (edLast y).f1 + 1 := w_in (by omega) (by omega)
   simp only [wy, rdE_last y hy, Int.toNat_natCast, if_pos (show 0 ≤ ((y.length - 1 : Nat) : Int) by omega), if_pos (show ((y.length - 1 : Nat) : Int) < (y.length : Int) by omega), wf, if_pos (show (edLast y).f2.length < 8796093022208 by omega)]
   by_cases b45 : bt l[i] 0 = 45
   ·have e : stepOf l[i] = .del := by rw [stepOf, if_neg b32, if_pos b45]
    simp only [if_pos b45, e, edits, hop]
    refine ih (i + 1) (at_ + 1) true (addDel y) (by omega) (by omega) (by omega) (by push_cast; omega) (fun _ => addDel_ne y hy) (by simp only [addDel, List.length_set]; omega) (fun x hx => ?_)
    unfold addDel at hx
    rcases List.mem_or_eq_of_mem_set hx with hx | rfl
    ·have := hyb x hx; push_cast; omega
    ·show 0 ≤ (edLast y).f1 + 1 ∧ (edLast y).f1 + 1 ≤ _ ∧ (edLast y).f2.length ≤ _
     push_cast; omega
   ·have e : stepOf l[i] = .ins (tl l[i]) := by rw [stepOf, if_neg b32, if_neg b45]
    simp only [if_neg b45, e, edits, hop]
    refine ih (i + 1) at_ true (addIns (tl l[i]) y) (by omega) (by omega) (by omega) (by push_cast; omega) (fun _ => addIns_ne _ y hy) (by simp only [addIns, List.length_set]; omega) (fun x hx => ?_)
    unfold addIns at hx
    rcases List.mem_or_eq_of_mem_set hx with hx | rfl
    ·have := hyb x hx; push_cast; omega
    ·show 0 ≤ (edLast y).f1 ∧ (edLast y).f1 ≤ _ ∧ ((edLast y).f2 ++ [tl l[i]]).length ≤ _
     rw [List.length_append, List.length_singleton]
     push_cast; omega
  by_cases hop : op = true
  ·subst hop
   simp only [if_true]
   exact go out (h3 rfl) (by omega) h5 rfl
  ·have hop' : op = false := by cases op <;> simp_all
   subst hop'
   simp only [Bool.false_eq_true, if_false, if_pos (show out.length < 3518437208883 by omega), Option.bind_some]
   refine go (out ++ [⟨at_, 0, []⟩]) (by simp) (by rw [List.length_append, List.length_singleton]; omega) (fun e he => ?_) rfl
   rcases List.mem_append.1 he with he | he
   ·exact h5 e he
   ·rw [List.mem_singleton.1 he]; exact ⟨Int.le_refl _, by show (0 : Int) ≤ (i : Int); omega, Nat.zero_le _⟩
theorem edL_snoc (out : List Ed) (e : Ed) : edLast (out ++ [e]) = e := by
 unfold edLast
 rw [List.getD_eq_getElem?_getD, List.length_append, List.length_singleton, Nat.add_sub_cancel, List.getElem?_append_right (Nat.le_refl _), Nat.sub_self]
 rfl
theorem addDel_end (out : List Ed) (p n : Int) (I : List ByteArray) : addDel (out ++ [⟨p, n, I⟩]) = out ++ [⟨p, n + 1, I⟩] := by
 unfold addDel
 rw [edL_snoc, List.length_append, List.length_singleton, Nat.add_sub_cancel, List.set_append_right _ _ (Nat.le_refl _), Nat.sub_self]
 rfl
theorem addIns_end (s : ByteArray) (out : List Ed) (p n : Int) (I : List ByteArray) : addIns s (out ++ [⟨p, n, I⟩]) = out ++ [⟨p, n, I ++ [s]⟩] := by
 unfold addIns
 rw [edL_snoc, List.length_append, List.length_singleton, Nat.add_sub_cancel, List.set_append_right _ _ (Nat.le_refl _), Nat.sub_self]
 rfl
theorem edits_keep : ∀ (l : List ByteArray) (at_ : Int) (op : Bool) (out : List Ed) (S : List Step), edits at_ op out ((sgs 32 l).map stepOf ++ S) = edits (at_ + l.length) (if l = [] then op else false) out S
 | [], at_, op, out, S => by simp [sgs]
 | s :: l, at_, op, out, S => by
  have h := edits_keep l (at_ + 1) false out S
  have e : stepOf (sg 32 s) = .keep := by rw [stepOf, if_pos (by rw [sg_bt]; rfl)]
  show edits at_ op out (stepOf (sg 32 s) :: ((sgs 32 l).map stepOf ++ S)) = _
  rw [e, edits, h]
  simp only [ite_self, if_neg (show ¬ (s :: l = []) by simp), List.length_cons]
  congr 1; push_cast; omega
theorem edits_del : ∀ (l : List ByteArray) (at_ : Int) (out : List Ed) (p n : Int) (I : List ByteArray) (S : List Step), edits at_ true (out ++ [⟨p, n, I⟩]) ((sgs 45 l).map stepOf ++ S) = edits (at_ + l.length) true (out ++ [⟨p, n + l.length, I⟩]) S
 | [], at_, out, p, n, I, S => by simp [sgs]
 | s :: l, at_, out, p, n, I, S => by
  have h := edits_del l (at_ + 1) out p (n + 1) I S
  have e : stepOf (sg 45 s) = .del := by rw [stepOf, if_neg (by rw [sg_bt]; decide), if_pos (by rw [sg_bt]; rfl)]
  show edits at_ true (out ++ [⟨p, n, I⟩]) (stepOf (sg 45 s) :: ((sgs 45 l).map stepOf ++ S)) = _
  rw [e, edits, opened, if_pos rfl, addDel_end, h, List.length_cons]
  congr 1
  ·push_cast; omega
  ·congr 1; congr 1; congr 1; push_cast; omega
theorem edits_ins : ∀ (l : List ByteArray) (at_ : Int) (out : List Ed) (p n : Int) (I : List ByteArray) (S : List Step), edits at_ true (out ++ [⟨p, n, I⟩]) ((sgs 43 l).map stepOf ++ S) = edits at_ true (out ++ [⟨p, n, I ++ l⟩]) S
 | [], at_, out, p, n, I, S => by simp [sgs]
 | s :: l, at_, out, p, n, I, S => by
  have h := edits_ins l at_ out p n (I ++ [s]) S
  have e : stepOf (sg 43 s) = .ins s := by rw [stepOf, if_neg (by rw [sg_bt]; decide), if_neg (by rw [sg_bt]; decide), tl_sg]
  show edits at_ true (out ++ [⟨p, n, I⟩]) (stepOf (sg 43 s) :: ((sgs 43 l).map stepOf ++ S)) = _
  rw [e, edits, opened, if_pos rfl, addIns_end, h, List.append_assoc]
  rfl
theorem edits_open (d i : List ByteArray) (h : d ≠ [] ∨ i ≠ []) (at_ : Int) (out : List Ed) (S : List Step) :
  edits at_ false out ((sgs 45 d).map stepOf ++ ((sgs 43 i).map stepOf ++ S)) = edits (at_ + d.length) true (out ++ [⟨at_, (d.length : Int), i⟩]) S := by
 cases d with
 | cons s d =>
  have e : stepOf (sg 45 s) = .del := by rw [stepOf, if_neg (by rw [sg_bt]; decide), if_pos (by rw [sg_bt]; rfl)]
  show edits at_ false out (stepOf (sg 45 s) :: ((sgs 45 d).map stepOf ++ _)) = _
  rw [e, edits, opened, if_neg (by simp), addDel_end, edits_del, edits_ins, List.nil_append, List.length_cons]
  congr 1
  ·push_cast; omega
  ·congr 1; congr 1; congr 1; push_cast; omega
 | nil =>
  cases i with
  | nil => rcases h with h | h <;> exact absurd rfl h
  | cons s i =>
   have e : stepOf (sg 43 s) = .ins s := by rw [stepOf, if_neg (by rw [sg_bt]; decide), if_neg (by rw [sg_bt]; decide), tl_sg]
   show edits at_ false out (stepOf (sg 43 s) :: ((sgs 43 i).map stepOf ++ _)) = _
   rw [e, edits, opened, if_neg (by simp), addIns_end, edits_ins]
   simp
theorem edits_blk : ∀ (bs : List Blk) (t : List ByteArray) (f op : Bool) (at_ : Int) (out : List Ed), BOk f bs → (f = true → op = false) → edits at_ op out ((blkLines bs t).map stepOf) = out ++ edB at_ bs
 | [], t, f, op, at_, out, h, hf => by
  have e := edits_keep t at_ op out []
  rw [List.append_nil] at e
  simp only [blkLines, e, edits, edB, List.append_nil]
 | b :: bs, t, f, op, at_, out, h, hf => by
  have hc : (if b.k = [] then op else false) = false := by
   by_cases hk : b.k = []
   ·rw [if_pos hk]
    rcases h.2.1 with h1 | h1
    ·exact hf h1
    ·exact absurd hk h1
   ·rw [if_neg hk]
  rw [blkLines, List.map_append, List.map_append, List.map_append, edits_keep, hc, edits_open b.d b.i h.1, edits_blk bs t false true _ _ h.2.2 (by simp), edB, List.append_assoc]
  rfl
theorem REditsH_ev (A An B Bn : Int) (bs : List Blk) (t : List ByteArray) (h : BOk true bs) (h0 : -4398046511104 ≤ A) (h1 : A ≤ 4398046511104) (hn : (blkLines bs t).length ≤ 1099511627776) :
  Ev (fun k => grapevineref05_Edits.f k A An B Bn (blkLines bs t)) (edB A bs) := by
 unfold grapevineref05_Edits.f
 have e := REdits_l0 A An B Bn (blkLines bs t) (blkLines_size bs t) hn _ 0 A false [] rfl (by omega) h0 (by omega) (by simp) (by simp) (by simp)
 rw [List.drop_zero, edits_blk bs t true false A [] h (fun _ => rfl), List.nil_append] at e
 exact e
end Go.Proofs.Ytlabiajcohmjhaa.Pr
-- shrunk
