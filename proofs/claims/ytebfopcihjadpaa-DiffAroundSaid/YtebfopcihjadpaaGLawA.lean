/-
The law DiffAround answers true: the plain part.
-/
import Derived.Test.YtebfopcihjadpaaGLawL
import Derived.Test.YtebfopcihjadpaaD10
namespace Go.Proofs.Ytebfopcihjadpaa.Pr
open Go.RowKit Go.Proofs.YtebfopcihjadpaaW.PrintWords Go.Proofs.YtebfopcihjadpaaW.PrintLast Go.Proofs.YtebfopcihjadpaaW.PrintMore
set_option linter.unusedVariables false
set_option linter.unusedSimpArgs false
def catL (s : ByteArray) (l : List ByteArray) : ByteArray := l.foldl (· ++ ·) s
theorem catL_le : ∀ (l : List ByteArray) (s : ByteArray), s.size ≤ (catL s l).size
  | [], s => Nat.le_refl _
  | x :: l, s => by
    have h := catL_le l (s ++ x)
    rw [ByteArray.size_append] at h
    show s.size ≤ (catL (s ++ x) l).size
    omega
theorem catL_mem : ∀ (l : List ByteArray) (s v : ByteArray), v ∈ l → v.size + s.size ≤ (catL s l).size
  | x :: l, s, v, h => by
    show v.size + s.size ≤ (catL (s ++ x) l).size
    rcases List.mem_cons.1 h with rfl | h
    · have := catL_le l (s ++ v)
      rw [ByteArray.size_append] at this
      omega
    · have := catL_mem l (s ++ x) v h
      rw [ByteArray.size_append] at this
      omega
theorem catL_most : ∀ (l : List ByteArray) (s : ByteArray), (∀ v ∈ l, v.size ≤ 140737488351232) → (catL s l).size ≤ s.size + l.length * 140737488351232
  | [], s, h => by simp [catL]
  | x :: l, s, h => by
    have h1 := catL_most l (s ++ x) (fun v hv => h v (by simp [hv]))
    have h2 := h x (by simp)
    rw [ByteArray.size_append] at h1
    show (catL (s ++ x) l).size ≤ _
    rw [List.length_cons, Nat.add_mul, Nat.one_mul]
    omega
theorem DAround_l0 (a b : List ByteArray) (a2 a3 : Int) (ha : a.length ≤ 12) (hs : ∀ v ∈ a, v.size ≤ 140737488351232) : ∀ (d i : Nat) (own : ByteArray), a.length - i = d → i ≤ a.length → own.size ≤ 281474976710656 + i * 140737488351232 →
    Ev (fun k => grapevinelaw04_DiffAround.l1 k a b a2 a3 true (catL own (a.drop i)) 0) true → Ev (fun k => grapevinelaw04_DiffAround.l0 k a b a2 a3 true own (i : Int)) true := by
  intro d
  induction d with
  | zero =>
    intro i own hd hi ho h
    refine Ev.step (fun _ => grapevinelaw04_DiffAround.l0.eq_2 ..) ?_
    simp only [if_neg (show ¬ (i : Int) < (a.length : Int) by omega)]
    rw [List.drop_of_length_le (by omega)] at h
    exact h
  | succ d ih =>
    intro i own hd hi ho h
    refine Ev.step (fun _ => grapevinelaw04_DiffAround.l0.eq_2 ..) ?_
    have h0 : i < a.length := by omega
    have hv := hs a[i] (List.getElem_mem h0)
    rw [List.drop_eq_getElem_cons h0] at h
    simp only [if_pos (show (i : Int) < (a.length : Int) by omega), if_pos (show 0 ≤ (i : Int) by omega), rdS_at h0, w_succ h0 (show a.length ≤ 4611686018427387904 by omega), if_pos (show own.size + a[i].size ≤ 9223372036854775807 by omega)]
    exact ih (i + 1) (own ++ a[i]) (by omega) (by omega) (by rw [ByteArray.size_append]; omega) h
theorem DAround_l1 (a b : List ByteArray) (a2 a3 : Int) (hb : b.length ≤ 12) (hs : ∀ v ∈ b, v.size ≤ 140737488351232) : ∀ (d i : Nat) (own : ByteArray), b.length - i = d → i ≤ b.length → own.size ≤ 2814749767106560 + i * 140737488351232 →
    Ev (fun k => grapevinelaw04_DiffAround.l2 k a b a2 a3 true [] (catL own (b.drop i)) 0) true → Ev (fun k => grapevinelaw04_DiffAround.l1 k a b a2 a3 true own (i : Int)) true := by
  intro d
  induction d with
  | zero =>
    intro i own hd hi ho h
    refine Ev.step (fun _ => grapevinelaw04_DiffAround.l1.eq_2 ..) ?_
    simp only [if_neg (show ¬ (i : Int) < (b.length : Int) by omega)]
    rw [List.drop_of_length_le (by omega)] at h
    exact h
  | succ d ih =>
    intro i own hd hi ho h
    refine Ev.step (fun _ => grapevinelaw04_DiffAround.l1.eq_2 ..) ?_
    have h0 : i < b.length := by omega
    have hv := hs b[i] (List.getElem_mem h0)
    rw [List.drop_eq_getElem_cons h0] at h
    simp only [if_pos (show (i : Int) < (b.length : Int) by omega), if_pos (show 0 ≤ (i : Int) by omega), rdS_at h0, w_succ h0 (show b.length ≤ 4611686018427387904 by omega), if_pos (show own.size + b[i].size ≤ 9223372036854775807 by omega)]
    exact ih (i + 1) (own ++ b[i]) (by omega) (by omega) (by rw [ByteArray.size_append]; omega) h
theorem DAround_l2 (a b : List ByteArray) (a2 a3 : Int) (own : ByteArray) (n : Nat) (hn : n ≤ 8) (h2 : wrap64 (Int.tmod a2 9) = (n : Int)) (h : Ev (fun k => grapevinelaw04_DiffAround.l3 k a b a3 true (List.replicate n own) [] own 0) true) : ∀ (d i : Nat), n - i = d → i ≤ n →
    Ev (fun k => grapevinelaw04_DiffAround.l2 k a b a2 a3 true (List.replicate i own) own (i : Int)) true := by
  intro d
  induction d with
  | zero =>
    intro i hd hi
    refine Ev.step (fun _ => grapevinelaw04_DiffAround.l2.eq_2 ..) ?_
    simp only [h2, if_neg (show ¬ (i : Int) < (n : Int) by omega)]
    rw [show i = n by omega]
    exact h
  | succ d ih =>
    intro i hd hi
    refine Ev.step (fun _ => grapevinelaw04_DiffAround.l2.eq_2 ..) ?_
    have hi' : i < n := by omega
    simp only [h2, if_pos (show (i : Int) < (n : Int) by omega), List.length_replicate, if_pos (show i < 8796093022208 by omega), w_succ hi' (show n ≤ 4611686018427387904 by omega)]
    rw [show List.replicate i own ++ [own] = List.replicate (i + 1) own from (List.replicate_succ' ..).symm]
    exact ih (i + 1) (by omega) (by omega)
theorem DAround_l4 (F : List ByteArray) (l : List Ed) (hF : F.length ≤ 8) (hok : Ok40 l) (hl : ∀ e ∈ l, 0 ≤ e.f0 ∧ e.f0 ≤ 1099511627776) : ∀ (d i : Nat), l.length - i = d → i ≤ l.length →
    Ev (fun k => grapevinelaw04_DiffAround.l4 k true F l (l.take i ++ (l.map (shE (F.length : Int))).drop i) (i : Int)) true := by
  intro d
  induction d with
  | zero =>
    intro i hd hi
    refine Ev.step (fun _ => grapevinelaw04_DiffAround.l4.eq_2 ..) ?_
    have e : l.take i ++ (l.map (shE (F.length : Int))).drop i = l := by rw [List.take_of_length_le (by omega), List.drop_of_length_le (by rw [List.length_map]; omega), List.append_nil]
    rw [e]
    simp only [if_neg (show ¬ (i : Int) < (l.length : Int) by omega), if_true]
    refine Ev.bind (Ev.none_of fun _ => Same_ev l l hok) ?_
    rw [decide_eq_true rfl]
    exact Ev.now _
  | succ d ih =>
    intro i hd hi
    refine Ev.step (fun _ => grapevinelaw04_DiffAround.l4.eq_2 ..) ?_
    have h0 : i < l.length := by omega
    have hb := hl l[i] (List.getElem_mem h0)
    have htk : (l.take i).length = i := by rw [List.length_take]; omega
    have e1 : (l.map (shE (F.length : Int))).drop i = shE (F.length : Int) l[i] :: (l.map (shE (F.length : Int))).drop (i + 1) := by
      rw [List.drop_eq_getElem_cons (by rw [List.length_map]; exact h0), List.getElem_map]
    rw [e1]
    have hlen : (l.take i ++ shE (F.length : Int) l[i] :: (l.map (shE (F.length : Int))).drop (i + 1)).length = l.length := by
      rw [List.length_append, htk, List.length_cons, List.length_drop, List.length_map]; omega
    have hrd : rd_T29 (l.take i ++ shE (F.length : Int) l[i] :: (l.map (shE (F.length : Int))).drop (i + 1)) (i : Int) = shE (F.length : Int) l[i] := by
      rw [rdE_at (by rw [hlen]; exact h0), List.getElem_append_right (by omega)]
      simp [htk]
    have hset : ∀ v : Ed, (l.take i ++ shE (F.length : Int) l[i] :: (l.map (shE (F.length : Int))).drop (i + 1)).set i v = l.take i ++ v :: (l.map (shE (F.length : Int))).drop (i + 1) := fun v => by
      rw [List.set_append_right _ _ (by omega), htk, Nat.sub_self, List.set_cons_zero]
    simp only [hlen, if_pos (show (i : Int) < (l.length : Int) by omega), if_pos (show 0 ≤ (i : Int) by omega), hrd, Int.toNat_natCast, hset, w_succ h0 (show l.length ≤ 4611686018427387904 by have := hok.1; omega)]
    have hv : (⟨wrap64 ((shE (F.length : Int) l[i]).f0 - (F.length : Int)), (shE (F.length : Int) l[i]).f1, (shE (F.length : Int) l[i]).f2⟩ : Ed) = l[i] := by
      have : (shE (F.length : Int) l[i]).f0 - (F.length : Int) = l[i].f0 := by show l[i].f0 + (F.length : Int) - (F.length : Int) = _; omega
      rw [this, w_in (by omega) (by omega)]
      rfl
    rw [hv]
    have h := ih (i + 1) (by omega) (by omega)
    rw [List.take_succ_eq_append_getElem h0, List.append_assoc, List.singleton_append] at h
    exact h
theorem DAround_l3 (a b : List ByteArray) (a3 : Int) (own : ByteArray) (f n : Nat) (hf : f ≤ 8) (hn : n ≤ 8) (h3 : wrap64 (Int.tmod a3 9) = (n : Int)) (hla : a.length ≤ 12) (hlb : b.length ≤ 12) (ha : own ∉ a) (hb : own ∉ b) : ∀ (d i : Nat), n - i = d → i ≤ n →
    Ev (fun k => grapevinelaw04_DiffAround.l3 k a b a3 true (List.replicate f own) (List.replicate i own) own (i : Int)) true := by
  intro d
  induction d with
  | zero =>
    intro i hd hi
    refine Ev.step (fun _ => grapevinelaw04_DiffAround.l3.eq_2 ..) ?_
    have hi' : i = n := by omega
    subst hi'
    simp only [h3, if_neg (show ¬ (i : Int) < (i : Int) by omega)]
    refine Ev.bind (Ev.none_of fun _ => Diff_some a b (by omega) (by omega)) ?_
    simp only [Option.bind_some, List.nil_append, List.length_nil, Nat.zero_add, List.length_append, List.length_replicate,
      if_pos (show f < 8796093022208 by omega), if_pos (show f + a.length < 8796093022208 by omega), if_pos (show f + a.length + i < 8796093022208 by omega), if_pos (show f + b.length < 8796093022208 by omega), if_pos (show f + b.length + i < 8796093022208 by omega)]
    have hd : diff_Diff.f (List.replicate f own ++ a ++ List.replicate i own) (List.replicate f own ++ b ++ List.replicate i own) = some ((between a b).map (shE (f : Int))) := by
      rw [Diff_some _ _ (by simp only [List.length_append, List.length_replicate]; omega) (by simp only [List.length_append, List.length_replicate]; omega), List.append_assoc, List.append_assoc,
        between_around _ _ a b own (fun g hg => List.eq_of_mem_replicate hg) ha hb, List.length_replicate]
    refine Ev.bind (Ev.none_of fun _ => hd) ?_
    rw [List.length_map]
    simp only [if_true]
    have hbo := (between_ok a b).1
    have hs := between_size a b (small_mul (k := 12) hla hlb (by omega))
    have hi2 := insE_le (between a b)
    have hll := len_le_size _ _ _ hbo
    have hmem : ∀ {m : List Ed} {e : Ed}, e ∈ m → e.f2.length ≤ insE m := by
      intro m
      induction m with
      | nil => intro e he; cases he
      | cons g m ih =>
        intro e he
        rcases List.mem_cons.1 he with rfl | he
        · simp only [insE]; omega
        · have := ih he; simp only [insE]; omega
    have h := DAround_l4 (List.replicate f own) (between a b) (by rw [List.length_replicate]; exact hf) ⟨by omega, fun e he => by have := hmem he; omega⟩ (fun e he => by
      have hm : ∀ {m : List Ed} {fr many : Int}, okFrom fr many m = true → 0 ≤ fr → ∀ e ∈ m, 0 ≤ e.f0 ∧ e.f0 ≤ many := by
        intro m
        induction m with
        | nil => intro fr many _ _ e he; cases he
        | cons g m ih =>
          intro fr many ho h0 e he
          obtain ⟨c1, c2, c3, c4, c5, ho'⟩ := okFrom_cons ho
          rcases List.mem_cons.1 he with rfl | he
          · exact ⟨by omega, c3⟩
          · exact ih ho' (by omega) e he
      have := hm hbo (by omega) e he
      omega) _ 0 rfl (by omega)
    rw [List.length_replicate, List.take_zero, List.nil_append, List.drop_zero] at h
    exact h
  | succ d ih =>
    intro i hd hi
    refine Ev.step (fun _ => grapevinelaw04_DiffAround.l3.eq_2 ..) ?_
    have hi' : i < n := by omega
    simp only [h3, if_pos (show (i : Int) < (n : Int) by omega), List.length_replicate, if_pos (show i < 8796093022208 by omega), w_succ hi' (show n ≤ 4611686018427387904 by omega)]
    rw [show List.replicate i own ++ [own] = List.replicate (i + 1) own from (List.replicate_succ' ..).symm]
    exact ih (i + 1) (by omega) (by omega)
theorem tmod9_u8 {a : Int} (h : (Lit.int .u8 a).wf = true) : ∃ n : Nat, n ≤ 8 ∧ wrap64 (Int.tmod a 9) = (n : Int) := by
  have h1 : 0 ≤ a ∧ a ≤ 255 := by
    simp only [Lit.wf, Bool.and_eq_true, decide_eq_true_eq] at h
    have e1 : IntKind.u8.min = 0 := rfl
    have e2 : IntKind.u8.max = 255 := rfl
    omega
  refine ⟨(a % 9).toNat, by omega, ?_⟩
  rw [Int.tmod_eq_emod_of_nonneg h1.1, w_in (by omega) (by omega)]
  omega
theorem DiffAround_pure (a b : List ByteArray) (a2 a3 : Int) (ha : a.length * 16 ≤ 140737488351232) (hsa : ∀ v ∈ a, v.size ≤ 140737488351232) (hb : b.length * 16 ≤ 140737488351232) (hsb : ∀ v ∈ b, v.size ≤ 140737488351232)
    (h2 : (Lit.int .u8 a2).wf = true) (h3 : (Lit.int .u8 a3).wf = true) : ∃ k, grapevinelaw04_DiffAround.f k a b a2 a3 = some true := by
  refine Ev.rounds ?_
  unfold grapevinelaw04_DiffAround.f
  have j0t : Ev (fun k => grapevinelaw04_DiffAround.j0 k a b a2 a3 true true) true := by
    refine Ev.step (fun _ => grapevinelaw04_DiffAround.j0.eq_2 ..) ?_
    exact Ev.now _
  refine Ev.bind (Ev.none_of fun _ => rfl) ?_
  by_cases c1 : (a.length : Int) > 12
  · simp only [if_pos c1]
    exact j0t
  simp only [if_neg c1]
  by_cases c2 : (b.length : Int) > 12
  · rw [decide_eq_true c2]
    exact j0t
  rw [decide_eq_false c2]
  refine Ev.step (fun _ => grapevinelaw04_DiffAround.j0.eq_2 ..) ?_
  simp only [Bool.false_eq_true, if_false]
  obtain ⟨n, hn, en⟩ := tmod9_u8 h2
  obtain ⟨m, hm, em⟩ := tmod9_u8 h3
  have hd : (⟨#[46]⟩ : ByteArray).size = 1 := rfl
  have z1 := catL_most a (⟨#[46]⟩ : ByteArray) hsa
  refine DAround_l0 a b a2 a3 (by omega) hsa _ 0 _ rfl (by omega) (by omega) ?_
  refine DAround_l1 a b a2 a3 (by omega) hsb _ 0 _ rfl (by omega) (by rw [List.drop_zero]; omega) ?_
  rw [List.drop_zero, List.drop_zero]
  have hna : catL (catL (⟨#[46]⟩ : ByteArray) a) b ∉ a := fun h => by
    have g1 := catL_mem a (⟨#[46]⟩ : ByteArray) _ h
    have g2 := catL_le b (catL (⟨#[46]⟩ : ByteArray) a)
    omega
  have hnb : catL (catL (⟨#[46]⟩ : ByteArray) a) b ∉ b := fun h => by
    have g1 := catL_mem b (catL (⟨#[46]⟩ : ByteArray) a) _ h
    have g2 := catL_le a (⟨#[46]⟩ : ByteArray)
    omega
  refine DAround_l2 a b a2 a3 _ n hn en ?_ _ 0 rfl (by omega)
  exact DAround_l3 a b a3 _ n m hn hm em (by omega) (by omega) hna hnb _ 0 rfl (by omega)
end Go.Proofs.Ytebfopcihjadpaa.Pr
