/-
The regions of three lists are right, stable and changed ones by turns, none of them empty. Plain Lean.
-/
import Derived.Test.YtnmphfelebkaiaaK3
import Derived.Test.YtnmphfelebkaiaaGRightA
namespace Go.Proofs.Ytnmphfelebkaiaa.Pr
set_option linter.unusedVariables false
set_option linter.unusedSimpArgs false
def altFrom (p : Option Bool) : List S32 → Prop
 | [] => True
 | r :: l => p ≠ some (r.f0 == 0) ∧ altFrom (some (r.f0 == 0)) l
def PosR (r : S32) : Prop := 0 ≤ r.f1.f1 ∧ 0 ≤ r.f2.f1 ∧ 0 ≤ r.f3.f1 ∧ 1 ≤ r.f1.f1 + r.f2.f1 + r.f3.f1 ∧ r.f1.f1 ≤ 1048576 ∧ r.f2.f1 ≤ 1048576 ∧ r.f3.f1 ≤ 1048576
theorem kindP_ne (c : Cl) (p q : List ByteArray) : (kindP c p q == 0) = false := by
 unfold kindP
 repeat' split
 all_goals rfl
theorem lies_reg {t n : Nat} {len : Nat} (h : t + n ≤ len) : liesP ⟨(t : Int), (n : Int)⟩ t len = true := by
 rw [liesP, decide_eq_true_eq]
 exact ⟨rfl, Int.natCast_nonneg _, by simp only; omega⟩
theorem cut_nat (l : List ByteArray) (t n : Nat) : cutP l ⟨(t : Int), (n : Int)⟩ = (l.drop t).take n := by
 rw [cutP, Int.toNat_natCast, Int.toNat_natCast]
theorem right_cons {o a b : List ByteArray} {k : Int} {t n x m y p : Nat} {T : List S32} (h1 : t + n ≤ o.length) (h2 : x + m ≤ a.length) (h3 : y + p ≤ b.length) (hk : holdsP k ((o.drop t).take n) ((a.drop x).take m) ((b.drop y).take p) = true) (hT : rightR o a b (t + n) (x + m) (y + p) T = true) :
  rightR o a b t x y (⟨k, ⟨(t : Int), (n : Int)⟩, ⟨(x : Int), (m : Int)⟩, ⟨(y : Int), (p : Int)⟩⟩ :: T) = true := by
 rw [rightR]
 simp only [lies_reg h1, lies_reg h2, lies_reg h3, cut_nat, hk, Bool.true_and, Int.toNat_natCast]
 exact hT
theorem more_pos : ∀ (p : List Ed) {f : Int} {l : List Ed} {many : Int}, okFrom f many (p ++ l) = true → (∀ e ∈ p, e.f0 + e.f1 ≤ f) → (p.length : Int) ≤ moreE p
 | [], f, l, many, h, hp => by simp [moreE]
 | e :: p, f, l, many, h, hp => by
  obtain ⟨h1, h2, h3, h4, h5⟩ := okFrom_head h
  have h6 := hp e List.mem_cons_self
  have h7 : p = [] := by
   cases p with
   | nil => rfl
   | cons e' p =>
    have h8 := hp e' (by simp)
    have h9 := okFrom_mem h5 e' (by simp)
    omega
  have hz : e.f1 = 0 := by omega
  have hne : e.f2 ≠ [] := fun hh => h4 ⟨hz, hh⟩
  have := List.length_pos_iff.2 hne
  subst h7
  simp only [moreE, List.length_cons, List.length_nil]
  omega
theorem run_list {o a b : List ByteArray} (ho : o.length ≤ 1048576) (ha : a.length ≤ 1048576) (hb : b.length ≤ 1048576) : ∀ (n : Nat) (s : Rs) (l0 l1 : List Ed) (t x y : Nat) (p : Option Bool), l0.length + l1.length = n → Inv o a b s l0 l1 t x y →
  (p = none ∨ (p = some false ∧ okFrom (t + 1) o.length l0 = true ∧ okFrom (t + 1) o.length l1 = true)) →
  ∃ T, endR o.length ((clusters l0 l1).foldl (stepR a b) s) = s.out ++ T ∧ rightR o a b t x y T = true ∧ altFrom p T ∧ ∀ r ∈ T, PosR r := by
 intro n
 induction n using Nat.strongRecOn with
 | _ n ih =>
  intro s l0 l1 t x y p hn h hp
  rcases Nat.eq_zero_or_pos (l0.length + l1.length) with h0 | h0
  ·rw [clusters_nil h0, List.foldl_nil]
   have z0 : l0 = [] := List.length_eq_zero_iff.1 (by omega)
   have z1 : l1 = [] := List.length_eq_zero_iff.1 (by omega)
   subst z0 z1
   have h7 := h.A.ht
   have h8 := h.A.hx
   have h9 := h.B.hx
   have e := h.at_
   have ea : a.drop x = o.drop t := h.A.eq
   have eb : b.drop y = o.drop t := h.B.eq
   have la := congrArg List.length ea
   have lb := congrArg List.length eb
   rw [List.length_drop, List.length_drop] at la lb
   by_cases hlt : t < o.length
   ·have hr : addR s.last ((o.length : Int) - s.at_) 0 0 = ⟨0, ⟨(t : Int), ((o.length - t : Nat) : Int)⟩, ⟨(x : Int), ((o.length - t : Nat) : Int)⟩, ⟨(y : Int), ((o.length - t : Nat) : Int)⟩⟩ := by
     rw [addR, h.so, h.sa, h.sb, show (o.length : Int) - s.at_ = ((o.length - t : Nat) : Int) by omega, Int.add_zero]
    refine ⟨[⟨0, ⟨(t : Int), ((o.length - t : Nat) : Int)⟩, ⟨(x : Int), ((o.length - t : Nat) : Int)⟩, ⟨(y : Int), ((o.length - t : Nat) : Int)⟩⟩], ?_, ?_, ?_, ?_⟩
    ·rw [endR, if_pos (by omega), hr]
    ·refine right_cons (by omega) (by omega) (by omega) ?_ ?_
     ·rw [ea, eb]
      simp [holdsP]
     ·rw [rightR, decide_eq_true_eq]
      omega
    ·refine ⟨?_, trivial⟩
     rcases hp with hp | hp
     ·rw [hp]; simp
     ·rw [hp.1]; simp
    ·intro r hr
     rw [List.mem_singleton.1 hr]
     exact ⟨by simp only; omega, by simp only; omega, by simp only; omega, by simp only; omega, by simp only; omega, by simp only; omega, by simp only; omega⟩
   ·refine ⟨[], ?_, ?_, trivial, by simp⟩
    ·rw [endR, if_neg (by omega), List.append_nil]
    ·rw [rightR, decide_eq_true_eq]
     omega
  ·obtain ⟨p0, p1, f, x1, y1, t2, x2, y2, R⟩ := h.round h0
   rw [clusters_cons h0, List.foldl_cons]
   have hinv := R.inv h
   have hstep := R.step h
   have hgap := R.gapped h
   have hless := R.less
   obtain ⟨T, e1, e2, e3, e4⟩ := ih _ (by omega) _ _ _ _ _ _ (some false) rfl hinv (.inr ⟨rfl, R.k0, R.k1⟩)
   have i1 := R.A2.ht
   have i2 := R.A2.hx
   have i3 := R.B2.hx
   have lx := R.lx
   have ly := R.ly
   have ft := R.ft
   have tf := R.tf
   have ex1 := R.ex1
   have ey1 := R.ey1
   have ex2 := R.ex2
   have ey2 := R.ey2
   have hpos : PosR (regN (kindP (absorb (startC l0 l1) l0 l1).1 ((a.drop x1).take (x2 - x1)) ((b.drop y1).take (y2 - y1))) f t2 x1 x2 y1 y2) := by
    have hm : f = t2 → 1 ≤ (x2 - x1) + (y2 - y1) := by
     intro hft
     have q0 := more_pos p0 (l := (absorb (startC l0 l1) l0 l1).2.1) (by rw [← R.ate.e0]; exact R.f0) (fun e he => by have := R.ate.n0 e he; have := R.ct; omega)
     have q1 := more_pos p1 (l := (absorb (startC l0 l1) l0 l1).2.2) (by rw [← R.ate.e1]; exact R.f1) (fun e he => by have := R.ate.n1 e he; have := R.ct; omega)
     rcases R.some_ with hh | hh
     ·have := List.length_pos_iff.2 hh
      omega
     ·have := List.length_pos_iff.2 hh
      omega
    refine ⟨by simp only [regN]; omega, by simp only [regN]; omega, by simp only [regN]; omega, ?_, by simp only [regN]; omega, by simp only [regN]; omega, by simp only [regN]; omega⟩
    simp only [regN]
    by_cases hft : f = t2
    ·have := hm hft
     omega
    ·omega
   have hkind : holdsP (kindP (absorb (startC l0 l1) l0 l1).1 ((a.drop x1).take (x2 - x1)) ((b.drop y1).take (y2 - y1))) ((o.drop f).take (t2 - f)) ((a.drop x1).take (x2 - x1)) ((b.drop y1).take (y2 - y1)) = true := by
    unfold kindP
    by_cases q1 : p1 = []
    ·rw [R.h1, q1]
     simp [holdsP, R.nb q1]
    ·have hq1 : (absorb (startC l0 l1) l0 l1).1.h1 = true := by rw [R.h1]; simpa using q1
     by_cases q0 : p0 = []
     ·have hq0 : (absorb (startC l0 l1) l0 l1).1.h0 = false := by rw [R.h0, q0]; rfl
      rw [hq1, hq0]
      simp [holdsP, R.na q0]
     ·have hq0 : (absorb (startC l0 l1) l0 l1).1.h0 = true := by rw [R.h0]; simpa using q0
      rw [hq1, hq0]
      simp only [Bool.true_eq_false, if_false]
      by_cases he : (a.drop x1).take (x2 - x1) = (b.drop y1).take (y2 - y1)
      ·rw [if_pos he]
       simp [holdsP, he]
      ·rw [if_neg he]
       simp [holdsP]
   have hright : rightR o a b f x1 y1 (regN (kindP (absorb (startC l0 l1) l0 l1).1 ((a.drop x1).take (x2 - x1)) ((b.drop y1).take (y2 - y1))) f t2 x1 x2 y1 y2 :: T) = true := by
    refine right_cons (by omega) (by omega) (by omega) hkind ?_
    rw [show f + (t2 - f) = t2 by omega, show x1 + (x2 - x1) = x2 by omega, show y1 + (y2 - y1) = y2 by omega]
    exact e2
   have halt : ∀ q, q ≠ some false → altFrom q (regN (kindP (absorb (startC l0 l1) l0 l1).1 ((a.drop x1).take (x2 - x1)) ((b.drop y1).take (y2 - y1))) f t2 x1 x2 y1 y2 :: T) := by
    intro q hq
    have hk := kindP_ne (absorb (startC l0 l1) l0 l1).1 ((a.drop x1).take (x2 - x1)) ((b.drop y1).take (y2 - y1))
    refine ⟨?_, ?_⟩
    ·simp only [regN, hk]; exact hq
    ·simp only [regN, hk]; exact e3
   by_cases hg : t < f
   ·have hgp := hgap.2.2.2.2.2.2.1 hg
    refine ⟨⟨0, ⟨(t : Int), ((f - t : Nat) : Int)⟩, ⟨(x : Int), ((f - t : Nat) : Int)⟩, ⟨(y : Int), ((f - t : Nat) : Int)⟩⟩ :: regN (kindP (absorb (startC l0 l1) l0 l1).1 ((a.drop x1).take (x2 - x1)) ((b.drop y1).take (y2 - y1))) f t2 x1 x2 y1 y2 :: T, ?_, ?_, ?_, ?_⟩
    ·rw [e1, hstep, hgp]
     simp
    ·refine right_cons (by omega) (by omega) (by omega) ?_ ?_
     ·rw [R.ga, R.gb]
      simp [holdsP]
     ·rw [show t + (f - t) = f by omega, show x + (f - t) = x1 by omega, show y + (f - t) = y1 by omega]
      exact hright
    ·refine ⟨?_, halt _ (by simp)⟩
     rcases hp with hp | hp
     ·rw [hp]; simp
     ·rw [hp.1]; simp
    ·intro r hr
     rcases List.mem_cons.1 hr with rfl | hr
     ·exact ⟨by simp only; omega, by simp only; omega, by simp only; omega, by simp only; omega, by simp only; omega, by simp only; omega, by simp only; omega⟩
     ·rcases List.mem_cons.1 hr with rfl | hr
      ·exact hpos
      ·exact e4 r hr
   ·have hgp := hgap.2.2.2.2.2.2.2 hg
    have htf : t = f := by omega
    have hxx : x1 = x := by omega
    have hyy : y1 = y := by omega
    refine ⟨regN (kindP (absorb (startC l0 l1) l0 l1).1 ((a.drop x1).take (x2 - x1)) ((b.drop y1).take (y2 - y1))) f t2 x1 x2 y1 y2 :: T, ?_, ?_, ?_, ?_⟩
    ·rw [e1, hstep, hgp]
     simp
    ·rw [htf, ← hxx, ← hyy]; exact hright
    ·refine halt _ ?_
     rcases hp with hp | hp
     ·rw [hp]; simp
     ·exfalso
      have hs := start_spec hp.2.1 hp.2.2 h0
      have h5 := R.cf
      have h6 : (absorb (startC l0 l1) l0 l1).1.f = (startC l0 l1).f := R.ate.f
      omega
    ·intro r hr
     rcases List.mem_cons.1 hr with rfl | hr
     ·exact hpos
     ·exact e4 r hr
theorem regions_list (o a b : List ByteArray) (ho : o.length ≤ 1048576) (ha : a.length ≤ 1048576) (hb : b.length ≤ 1048576) : rightR o a b 0 0 0 (regionsP o a b) = true ∧ altFrom none (regionsP o a b) ∧ ∀ r ∈ regionsP o a b, PosR r := by
 obtain ⟨T, e1, e2, e3, e4⟩ := run_list ho ha hb _ _ _ _ _ _ _ none rfl (inv_start o a b) (.inl rfl)
 have e : regionsP o a b = T := by
  rw [regionsP, regionsR, e1]
  rfl
 rw [e]
 exact ⟨e2, e3, e4⟩
end Go.Proofs.Ytnmphfelebkaiaa.Pr
-- shrunk
