/-
Several plain texts in one.
-/
import Derived.Test.YtlabiajcohmjhaaGM2
import Derived.Test.YtlabiajcohmjhaaD14a
import Derived.Test.YtlabiajcohmjhaaD14b
import Derived.Test.YtlabiajcohmjhaaGLawH0
import Derived.Test.YtlabiajcohmjhaaD15
namespace Go.Proofs.Ytlabiajcohmjhaa.Pr
open Go.RowKit Go.Proofs.YtlabiajcohmjhaaW.PrintWords Go.Proofs.YtlabiajcohmjhaaW.PrintLast Go.Proofs.YtlabiajcohmjhaaW.PrintMore
set_option linter.unusedVariables false
set_option linter.unusedSimpArgs false
theorem Play_l0 (a : List ByteArray) (l : List Ed) (ha : a.length ≤ 1099511627776) (hn : l.length ≤ 4611686018427387904) :
  ∀ (d i t : Nat) (fr : Int) (out : List ByteArray), l.length - i = d → i ≤ l.length → 0 ≤ fr → (t : Int) ≤ fr → t ≤ a.length → okFrom fr a.length (l.drop i) = true → out.length + (a.length - t) + insE (l.drop i) ≤ 4398046511104 →
  Ev (fun k => diff_Play.l0 k a out (t : Int) l (l.length : Int) (i : Int)) (out ++ playFrom a t (l.drop i), true) := by
 intro d
 induction d with
 | zero =>
  intro i t fr out hd hi hf0 hf ht ho hb
  refine Ev.step (fun _ => diff_Play.l0.eq_2 ..) ?_
  rw [List.drop_of_length_le (by omega : l.length ≤ i)] at *
  simp only [if_neg (show ¬ (i : Int) < (l.length : Int) by omega), if_pos (show 0 ≤ (t : Int) by omega), if_pos (show (t : Int) ≤ (a.length : Int) by omega), slices_Concat_string_string.f, Int.toNat_natCast, List.flatten_cons, List.flatten_nil, List.append_nil]
  simp only [insE] at hb
  rw [if_pos (by simp only [List.length_append, List.length_drop]; omega)]
  exact Ev.now _
 | succ d ih =>
  intro i t fr out hd hi hf0 hf ht ho hb
  refine Ev.step (fun _ => diff_Play.l0.eq_2 ..) ?_
  have h0 : i < l.length := by omega
  rw [List.drop_eq_getElem_cons h0] at ho hb ⊢
  obtain ⟨c1, c2, c3, c4, _, ho'⟩ := okFrom_cons ho
  simp only [insE] at hb
  simp only [playFrom, if_pos (show (i : Int) < (l.length : Int) by omega), if_pos (show 0 ≤ (i : Int) by omega), rdE_at h0, w_succ h0 hn, if_pos (show 0 ≤ (t : Int) by omega), if_pos (show (t : Int) ≤ l[i].f0 by omega), if_pos c3, Int.toNat_natCast, slices_Concat_string_string.f, List.flatten_cons, List.flatten_nil, List.append_nil]
  have hlen : (out ++ ((a.take l[i].f0.toNat).drop t ++ l[i].f2)).length = out.length + (l[i].f0.toNat - t) + l[i].f2.length := by
   simp only [List.length_append, List.length_drop, List.length_take]; omega
  rw [if_pos (by rw [hlen]; omega), w_in (show -9223372036854775808 ≤ l[i].f0 + l[i].f1 by omega) (show l[i].f0 + l[i].f1 ≤ 9223372036854775807 by omega)]
  have h := ih (i + 1) (l[i].f0 + l[i].f1).toNat (l[i].f0 + l[i].f1 + 1) (out ++ ((a.take l[i].f0.toNat).drop t ++ l[i].f2)) (by omega) (by omega) (by omega) (by omega) (by omega) ho' (by rw [hlen]; omega)
  rw [Int.toNat_of_nonneg (by omega)] at h
  simp only [Option.bind_some]
  rw [List.append_assoc] at h
  exact h
theorem Play_ev (a : List ByteArray) (l : List Ed) (ha : a.length ≤ 1099511627776) (hn : l.length ≤ 1099511627776) (hb : insE l ≤ 1099511627776) :
  Ev (fun k => diff_Play.f k a l) (if okFrom 0 a.length l = true then (playFrom a 0 l, true) else ([], false)) := by
 refine Ev.bind (Right_ev (a.length : Int) l (by omega) (by omega) (by omega)) ?_
 by_cases h : okFrom 0 a.length l = true
 ·simp only [if_pos h]
  have h2 := Play_l0 a l ha (by omega) _ 0 0 0 [] rfl (by omega) (by omega) (by omega) (by omega) (by simpa using h) (by simp; omega)
  simpa using h2
 ·simp only [if_neg h]
  exact Ev.now _
theorem Turn_l0 (a : List ByteArray) (l : List Ed) (ha : a.length ≤ 1099511627776) (hn : l.length ≤ 1099511627776) :
  ∀ (d i : Nat) (more fr : Int) (out : List Ed), l.length - i = d → i ≤ l.length → 0 ≤ fr → fr ≤ a.length + 1 → -fr ≤ more → more + insE (l.drop i) ≤ 4398046511104 → okFrom fr a.length (l.drop i) = true → out.length + (l.length - i) ≤ 1099511627776 →
  Ev (fun k => diff_Turn.l0 k a out more l (l.length : Int) (i : Int)) (out ++ turnFrom a more (l.drop i)) := by
 intro d
 induction d with
 | zero =>
  intro i more fr out hd hi hf0 hf hm0 hm ho hb
  refine Ev.step (fun _ => diff_Turn.l0.eq_2 ..) ?_
  rw [List.drop_of_length_le (by omega : l.length ≤ i)] at *
  simp only [if_neg (show ¬ (i : Int) < (l.length : Int) by omega), turnFrom, List.append_nil]
  exact Ev.now _
 | succ d ih =>
  intro i more fr out hd hi hf0 hf hm0 hm ho hb
  refine Ev.step (fun _ => diff_Turn.l0.eq_2 ..) ?_
  have h0 : i < l.length := by omega
  rw [List.drop_eq_getElem_cons h0] at ho hm ⊢
  obtain ⟨c1, c2, c3, c4, _, ho'⟩ := okFrom_cons ho
  simp only [insE] at hm
  have hw : wrap64 (l[i].f0 + l[i].f1) = l[i].f0 + l[i].f1 := w_in (by omega) (by omega)
  simp only [turnFrom, if_pos (show (i : Int) < (l.length : Int) by omega), if_pos (show 0 ≤ (i : Int) by omega), rdE_at h0, w_succ h0 (show l.length ≤ 4611686018427387904 by omega), hw, if_pos (show 0 ≤ l[i].f0 by omega), if_pos (show l[i].f0 ≤ l[i].f0 + l[i].f1 by omega), if_pos (show l[i].f0 + l[i].f1 ≤ (a.length : Int) by omega), slices_Clone_string_string.f]
  rw [if_pos (by simp only [List.length_drop, List.length_take]; omega)]
  simp only [Option.bind_some, if_pos (show out.length < 3518437208883 by omega)]
  rw [w_in (show -9223372036854775808 ≤ l[i].f0 + more by omega) (show l[i].f0 + more ≤ 9223372036854775807 by omega), w_in (show -9223372036854775808 ≤ (l[i].f2.length : Int) - l[i].f1 by omega) (show (l[i].f2.length : Int) - l[i].f1 ≤ 9223372036854775807 by omega), w_in (show -9223372036854775808 ≤ more + ((l[i].f2.length : Int) - l[i].f1) by omega) (show more + ((l[i].f2.length : Int) - l[i].f1) ≤ 9223372036854775807 by omega)]
  have h := ih (i + 1) (more + ((l[i].f2.length : Int) - l[i].f1)) (l[i].f0 + l[i].f1 + 1) (out ++ [⟨l[i].f0 + more, (l[i].f2.length : Int), (a.take (l[i].f0 + l[i].f1).toNat).drop l[i].f0.toNat⟩]) (by omega) (by omega) (by omega) (by omega) (by omega) (by push_cast at hm; omega) ho' (by simp only [List.length_append, List.length_cons, List.length_nil]; omega)
  rw [List.append_assoc] at h
  exact h
theorem Turn_ev (a : List ByteArray) (l : List Ed) (ha : a.length ≤ 1099511627776) (hn : l.length ≤ 1099511627776) (hb : insE l ≤ 1099511627776) :
  Ev (fun k => diff_Turn.f k a l) (if okFrom 0 a.length l = true then turnFrom a 0 l else []) := by
 refine Ev.bind (Right_ev (a.length : Int) l (by omega) (by omega) (by omega)) ?_
 by_cases h : okFrom 0 a.length l = true
 ·simp only [if_pos h]
  have h2 := Turn_l0 a l ha hn _ 0 0 0 [] rfl (by omega) (by omega) (by omega) (by omega) (by simp; omega) (by simpa using h) (by simp; omega)
  simpa using h2
 ·simp only [if_neg h]
  exact Ev.now _
end Go.Proofs.Ytlabiajcohmjhaa.Pr

namespace Go.Proofs.Ytlabiajcohmjhaa.Pr
open Go.RowKit Go.Proofs.YtlabiajcohmjhaaW.PrintWords Go.Proofs.YtlabiajcohmjhaaW.PrintLast Go.Proofs.YtlabiajcohmjhaaW.PrintMore
set_option linter.unusedVariables false
set_option linter.unusedSimpArgs false
theorem turnFrom_f2 (a : List ByteArray) : ∀ (l : List Ed) (more : Int), (turnFrom a more l).length = l.length ∧ ∀ e ∈ turnFrom a more l, e.f2.length ≤ a.length
 | [], more => ⟨rfl, fun e he => by cases he⟩
 | x :: l, more => by
  have ih := turnFrom_f2 a l (more + ((x.f2.length : Int) - x.f1))
  refine ⟨by simp only [turnFrom, List.length_cons, ih.1], fun e he => ?_⟩
  simp only [turnFrom, List.mem_cons] at he
  rcases he with rfl | he
  ·show ((a.take _).drop _).length ≤ _
   rw [List.length_drop, List.length_take]; omega
  ·exact ih.2 e he
theorem HBack_l0 (a b : List ByteArray) (l : List Ed) (hs : List Hk) (ha : a.length ≤ 274877906944) (hb : b.length ≤ 274877906944) (hl : l.length ≤ 274877906944) (hi : insE l ≤ 274877906944) (hh : hs.length ≤ 274877906944) (ho : okFrom 0 a.length l = true) (hp : playFrom a 0 l = b) :
  ∀ (d i : Nat) (many en : Int) (f : Bool) (acc r tr : List Ed), hs.length - i = d → i ≤ hs.length → Chain many en f (hs.drop i) r tr → acc ++ tr = turnFrom a 0 l →
  Ev (fun k => grapevinelaw05_HunkBack.l0 k a b true l hs acc (i : Int)) true := by
 have tf := turnFrom_f2 a l 0
 obtain ⟨o2, p2, s2⟩ := play_turn a l ho
 rw [hp] at o2 p2
 have hi2 := insE_le (turnFrom a 0 l)
 have hi3 : sizeE l ≤ a.length + insE l := by
  have h1 : ∀ l : List Ed, (∀ e ∈ l, 0 ≤ e.f1) → sizeE l = delE l + insE l := by
   intro l
   induction l with
   | nil => intro _; rfl
   | cons e l ih =>
    intro h
    have h2 := ih (fun x hx => h x (by simp [hx]))
    have h3 := h e (by simp)
    simp only [sizeE, delE, insE]
    push_cast
    omega
  rw [h1 l (fun e he => (okFrom_each l 0 ho e he).2.1)]
  cases l with
  | nil => simp [delE, insE]
  | cons p l => have h1 := delE_le l p 0 ho; have h2 := okFrom_last l p 0 ho; obtain ⟨c1, _, _, _, _, _⟩ := okFrom_cons ho; omega
 intro d
 induction d with
 | zero =>
  intro i many en f acc r tr hd hi0 hc h2
  refine Ev.step (fun _ => grapevinelaw05_HunkBack.l0.eq_2 ..) ?_
  rw [List.drop_of_length_le (by omega)] at hc
  obtain ⟨_, rfl, hen⟩ := hc
  rw [List.append_nil] at h2
  subst h2
  simp only [if_neg (show ¬ (i : Int) < (hs.length : Int) by omega)]
  have eq := Play_ev b (turnFrom a 0 l) (by omega) (by omega) (by omega)
  rw [if_pos o2, p2] at eq
  refine Ev.bind eq ?_
  simp only [if_true]
  have ey := Texts_ev a a (by omega)
  rw [decide_eq_true rfl] at ey
  refine Ev.bind ey ?_
  simp only [if_true]
  have et := Turn_ev a l (by omega) (by omega) (by omega)
  rw [if_pos ho] at et
  refine Ev.bind et ?_
  have hok : Ok40 (turnFrom a 0 l) := ⟨by omega, fun e he => by have := tf.2 e he; omega⟩
  simp only [Same_ev _ _ hok, decide_true, Option.bind_some]
  exact Ev.now _
 | succ d ih =>
  intro i many en f acc r tr hd hi0 hc h2
  refine Ev.step (fun _ => grapevinelaw05_HunkBack.l0.eq_2 ..) ?_
  have h0 : i < hs.length := by omega
  rw [List.drop_eq_getElem_cons h0] at hc
  obtain ⟨g, r', tg, tr', rfl, rfl, hF, h5, h6, hc'⟩ := hc
  obtain ⟨L, hT, hE⟩ := hF.turn
  have hlen := congrArg List.length h2
  simp only [List.length_append] at hlen
  simp only [if_pos (show (i : Int) < (hs.length : Int) by omega), if_pos (show 0 ≤ (i : Int) by omega), rdH_at h0, w_succ h0 (show hs.length ≤ 4611686018427387904 by omega)]
  refine Ev.bind hT (Ev.bind hE ?_)
  simp only [if_pos (show acc.length + tg.length < 3518437208883 by omega)]
  exact ih (i + 1) many _ false (acc ++ tg) r' tr' (by omega) (by omega) hc' (by rw [List.append_assoc]; exact h2)
theorem HunkBack_pure (a b : List ByteArray) (a2 : Int) (ya : a.length * 16 ≤ 140737488351232) (za : ∀ s ∈ a, s.size ≤ 140737488351232) (yb : b.length * 16 ≤ 140737488351232) (zb : ∀ s ∈ b, s.size ≤ 140737488351232) (w2 : (Lit.int .u8 a2).wf = true) :
  ∃ k, grapevinelaw05_HunkBack.f k a b a2 = some true := by
 have hw := u8_nn w2
 refine Ev.rounds ?_
 unfold grapevinelaw05_HunkBack.f
 have j0t : Ev (fun k => grapevinelaw05_HunkBack.j0 k a b a2 true true) true := by
  refine Ev.step (fun _ => grapevinelaw05_HunkBack.j0.eq_2 ..) ?_
  exact Ev.now _
 refine Ev.bind awake_f ?_
 by_cases c1 : (a.length : Int) > 40
 ·simp only [if_pos c1]
  exact j0t
 simp only [if_neg c1]
 by_cases c2 : (b.length : Int) > 40
 ·rw [decide_eq_true c2]
  exact j0t
 rw [decide_eq_false c2]
 refine Ev.step (fun _ => grapevinelaw05_HunkBack.j0.eq_2 ..) ?_
 simp only [Bool.false_eq_true, if_false]
 have B := law_between a b (by omega) (by omega) zb
 have hm := mod_in (n := 51) hw (by omega) (by omega)
 have bl := B.len
 have bi := B.ins
 have hza : ∀ s ∈ a, s.size ≤ 4611686018427387904 := fun s hs => by have := za s hs; omega
 refine Ev.bind (Ev.none_of fun _ => Diff_some a b (by omega) (by omega)) ?_
 rw [hm.1]
 refine Ev.bind (Make_ev a _ _ (by omega) (by omega) hza B.str hm.2.1 (by omega) B.ok (by omega)) ?_
 simp only [if_true]
 have hlen := makeH_most a (a2 % 51) (between a b)
 exact HBack_l0 a b _ _ (by omega) (by omega) (by omega) (by omega) (by omega) B.ok B.pl _ 0 _ 0 true [] _ _ rfl (by omega)
  (makeH_chain a (a2 % 51) (by omega) hza hm.2.1 (by omega) _ _ 0 0 0 0 true (Nat.le_refl _) (by omega) B.str (by omega) B.ok (by omega) (by omega) (by omega) (by omega) (fun p r h => ⟨by omega, by omega, by simp⟩)) rfl
end Go.Proofs.Ytlabiajcohmjhaa.Pr
