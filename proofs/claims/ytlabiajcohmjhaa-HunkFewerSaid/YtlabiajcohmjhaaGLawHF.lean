/-
The law HunkFewer answers true: the plain part.
-/
import Derived.Test.YtlabiajcohmjhaaGLawH0
import Derived.Test.YtlabiajcohmjhaaD13
namespace Go.Proofs.Ytlabiajcohmjhaa.Pr
open Go.RowKit Go.Proofs.YtlabiajcohmjhaaW.PrintWords Go.Proofs.YtlabiajcohmjhaaW.PrintLast Go.Proofs.YtlabiajcohmjhaaW.PrintMore
set_option linter.unusedVariables false
set_option linter.unusedSimpArgs false
theorem HFewer_l1 (l : List Ed) (x y : List Hk) (one : Int) (hl : l.length ≤ 1099511627776) (hz : 0 ≤ sizeE l ∧ sizeE l ≤ 1099511627776) (hy : y.length ≤ 274877906944) (hone : one = sizeE l) (hxy : y.length ≤ x.length) (hx0 : x.length = 0 ↔ l = []) (hy0 : y.length = 0 ↔ l = []) :
  ∀ (d i : Nat) (many en : Int) (f : Bool) (two : Int) (r tr : List Ed), y.length - i = d → i ≤ y.length → Chain many en f (y.drop i) r tr → two + sizeE r = sizeE l → 0 ≤ two → r.length ≤ 1099511627776 →
  Ev (fun k => grapevinelaw05_HunkFewer.l1 k true l x 0 y 0 one two (i : Int)) true := by
 intro d
 induction d with
 | zero =>
  intro i many en f two r tr hd hi hc h2 h3 h4
  refine Ev.step (fun _ => grapevinelaw05_HunkFewer.l1.eq_2 ..) ?_
  rw [List.drop_of_length_le (by omega)] at hc
  obtain ⟨rfl, _, hen⟩ := hc
  simp only [sizeE] at h2
  simp only [if_neg (show ¬ (i : Int) < (y.length : Int) by omega), if_true, if_pos (show (y.length : Int) ≤ (x.length : Int) by omega), if_pos (show one = two by omega)]
  refine Ev.bind (Size_ev l (by omega) (by omega)) ?_
  have e1 : ((x.length : Int) == 0) = decide (l = []) := by rw [Bool.eq_iff_iff, beq_iff_eq, decide_eq_true_iff, ← hx0]; omega
  have e2 : ((y.length : Int) == 0) = decide (l = []) := by rw [Bool.eq_iff_iff, beq_iff_eq, decide_eq_true_iff, ← hy0]; omega
  have e3 : ((l.length : Int) == 0) = decide (l = []) := by rw [Bool.eq_iff_iff, beq_iff_eq, decide_eq_true_iff, ← List.length_eq_zero_iff]; omega
  simp only [if_pos hone, e1, e2, e3, beq_self_eq_true, if_true]
  exact Ev.now _
 | succ d ih =>
  intro i many en f two r tr hd hi hc h2 h3 h4
  refine Ev.step (fun _ => grapevinelaw05_HunkFewer.l1.eq_2 ..) ?_
  have h0 : i < y.length := by omega
  rw [List.drop_eq_getElem_cons h0] at hc
  obtain ⟨g, r', tg, tr', rfl, rfl, hF, h5, h6, hc'⟩ := hc
  rw [sizeE_append] at h2
  rw [List.length_append] at h4
  have n1 := sizeE_nonneg g
  have n2 := sizeE_nonneg r'
  simp only [if_pos (show (i : Int) < (y.length : Int) by omega), if_pos (show 0 ≤ (i : Int) by omega), rdH_at h0, w_succ h0 (show y.length ≤ 4611686018427387904 by omega)]
  refine Ev.bind hF.edits (Ev.bind (Size_ev g (by omega) (by omega)) ?_)
  rw [w_in (x := two + sizeE g) (by omega) (by omega)]
  exact ih (i + 1) many _ false _ r' tr' (by omega) (by omega) hc' (by omega) (by omega) (by omega)
theorem HFewer_l0 (l : List Ed) (x y : List Hk) (hz : 0 ≤ sizeE l ∧ sizeE l ≤ 1099511627776) (hx : x.length ≤ 274877906944)
  (rest : Ev (fun k => grapevinelaw05_HunkFewer.l1 k true l x 0 y 0 (sizeE l) 0 0) true) :
  ∀ (d i : Nat) (many en : Int) (f : Bool) (one : Int) (r tr : List Ed), x.length - i = d → i ≤ x.length → Chain many en f (x.drop i) r tr → one + sizeE r = sizeE l → 0 ≤ one → r.length ≤ 1099511627776 →
  Ev (fun k => grapevinelaw05_HunkFewer.l0 k true l x 0 y 0 one (i : Int)) true := by
 intro d
 induction d with
 | zero =>
  intro i many en f one r tr hd hi hc h2 h3 h4
  refine Ev.step (fun _ => grapevinelaw05_HunkFewer.l0.eq_2 ..) ?_
  rw [List.drop_of_length_le (by omega)] at hc
  obtain ⟨rfl, _, hen⟩ := hc
  simp only [sizeE] at h2
  simp only [if_neg (show ¬ (i : Int) < (x.length : Int) by omega)]
  rw [show one = sizeE l by omega]
  exact rest
 | succ d ih =>
  intro i many en f one r tr hd hi hc h2 h3 h4
  refine Ev.step (fun _ => grapevinelaw05_HunkFewer.l0.eq_2 ..) ?_
  have h0 : i < x.length := by omega
  rw [List.drop_eq_getElem_cons h0] at hc
  obtain ⟨g, r', tg, tr', rfl, rfl, hF, h5, h6, hc'⟩ := hc
  rw [sizeE_append] at h2
  rw [List.length_append] at h4
  have n1 := sizeE_nonneg g
  have n2 := sizeE_nonneg r'
  simp only [if_pos (show (i : Int) < (x.length : Int) by omega), if_pos (show 0 ≤ (i : Int) by omega), rdH_at h0, w_succ h0 (show x.length ≤ 4611686018427387904 by omega)]
  refine Ev.bind hF.edits (Ev.bind (Size_ev g (by omega) (by omega)) ?_)
  rw [w_in (x := one + sizeE g) (by omega) (by omega)]
  exact ih (i + 1) many _ false _ r' tr' (by omega) (by omega) hc' (by omega) (by omega) (by omega)
theorem HunkFewer_pure (a b : List ByteArray) (a2 a3 : Int) (ya : a.length * 16 ≤ 140737488351232) (za : ∀ s ∈ a, s.size ≤ 140737488351232) (yb : b.length * 16 ≤ 140737488351232) (zb : ∀ s ∈ b, s.size ≤ 140737488351232) (w2 : (Lit.int .u8 a2).wf = true) (w3 : (Lit.int .u8 a3).wf = true) :
  ∃ k, grapevinelaw05_HunkFewer.f k a b a2 a3 = some true := by
 have hw2 := u8_nn w2
 have hw3 := u8_nn w3
 refine Ev.rounds ?_
 unfold grapevinelaw05_HunkFewer.f
 have j0t : Ev (fun k => grapevinelaw05_HunkFewer.j0 k a b a2 a3 true true) true := by
  refine Ev.step (fun _ => grapevinelaw05_HunkFewer.j0.eq_2 ..) ?_
  exact Ev.now _
 refine Ev.bind awake_f ?_
 by_cases c1 : (a.length : Int) > 40
 ·simp only [if_pos c1]
  exact j0t
 simp only [if_neg c1]
 by_cases c2 : (b.length : Int) > 40
 ·rw [decide_eq_true c2]
  exact j0t
 rw [decide_eq_false c2]
 refine Ev.step (fun _ => grapevinelaw05_HunkFewer.j0.eq_2 ..) ?_
 simp only [Bool.false_eq_true, if_false]
 have B := law_between a b (by omega) (by omega) zb
 have hm2 := mod_in (n := 51) hw2 (by omega) (by omega)
 have hm3 := mod_in (n := 51) hw3 (by omega) (by omega)
 have bl := B.len
 have bi := B.ins
 have bz := B.sz
 refine Ev.bind (Ev.none_of fun _ => Diff_some a b (by omega) (by omega)) ?_
 rw [hm2.1, hm3.1]
 have hmx : mx (a2 % 51) (a3 % 51) = max (a2 % 51) (a3 % 51) := by unfold mx; omega
 rw [hmx]
 obtain ⟨n, hn⟩ : ∃ n, n = max (a2 % 51) (a3 % 51) := ⟨_, rfl⟩
 rw [← hn]
 have hza : ∀ s ∈ a, s.size ≤ 4611686018427387904 := fun s hs => by have := za s hs; omega
 refine Ev.bind (Make_ev a _ _ (by omega) (by omega) hza B.str hm2.2.1 (by omega) B.ok (by omega)) ?_
 refine Ev.bind (Make_ev a _ n (by omega) (by omega) hza B.str (by omega) (by omega) B.ok (by omega)) ?_
 have ch : ∀ ar : Int, 0 ≤ ar → ar ≤ 1000 → Chain a.length 0 true (makeH a ar 0 (between a b)) (between a b) (turnFrom a 0 (between a b)) := fun ar h0 h1 =>
  makeH_chain a ar (by omega) hza h0 h1 _ _ 0 0 0 0 true (Nat.le_refl _) (by omega) B.str (by omega) B.ok (by omega) (by omega) (by omega) (by omega) (fun p r h => ⟨by omega, by omega, by simp⟩)
 have l1 := makeH_most a (a2 % 51) (between a b)
 have l2 := makeH_most a n (between a b)
 refine HFewer_l0 (between a b) (makeH a (a2 % 51) 0 (between a b)) (makeH a n 0 (between a b)) (by omega) (by omega) ?_ _ 0 _ 0 true 0 _ _ rfl (by omega) (ch _ hm2.2.1 (by omega)) (by omega) (by omega) (by omega)
 exact HFewer_l1 (between a b) (makeH a (a2 % 51) 0 (between a b)) (makeH a n 0 (between a b)) _ (by omega) (by omega) (by omega) rfl (makeH_fewer a _ _ (by omega) _) (makeH_nil a _ _) (makeH_nil a _ _) _ 0 _ 0 true 0 _ _ rfl (by omega) (ch n (by omega) (by omega)) (by omega) (by omega) (by omega)
end Go.Proofs.Ytlabiajcohmjhaa.Pr
