/-
The document's Play and Turn, as plain Lean: they are the program's.
-/
import Derived.Test.YtebfopcihjadpaaGSpecR
import Derived.Test.YtebfopcihjadpaaGMathP
import Derived.Test.YtebfopcihjadpaaD7b
import Derived.Test.YtebfopcihjadpaaD8
namespace Go.Proofs.Ytebfopcihjadpaa.Pr
open Go.RowKit Go.Proofs.YtebfopcihjadpaaW.PrintWords Go.Proofs.YtebfopcihjadpaaW.PrintLast Go.Proofs.YtebfopcihjadpaaW.PrintMore
set_option linter.unusedVariables false
set_option linter.unusedSimpArgs false
/-- What a line's look through all edits finds. -/
def scan (i : Int) (s : List ByteArray × Int) : List Ed → List ByteArray × Int
  | [] => s
  | e :: l => if e.f0 = i then scan i (s.1 ++ e.f2, wrap64 (i + e.f1)) l else scan i s l
theorem scan_none (i : Int) : ∀ (l : List Ed) (s : List ByteArray × Int), (∀ e ∈ l, e.f0 ≠ i) → scan i s l = s
  | [], s, h => rfl
  | e :: l, s, h => by rw [scan, if_neg (h e (by simp)), scan_none i l s (fun e he => h e (by simp [he]))]
theorem scan_append (i : Int) : ∀ (l m : List Ed) (s : List ByteArray × Int), scan i s (l ++ m) = scan i (scan i s l) m
  | [], m, s => rfl
  | e :: l, m, s => by
    rw [List.cons_append, scan, scan]
    split <;> exact scan_append i l m _
theorem scan_len (i : Int) : ∀ (l : List Ed) (s : List ByteArray × Int), s.1.length ≤ (scan i s l).1.length
  | [], s => Nat.le_refl _
  | e :: l, s => by
    rw [scan]
    split
    · refine Nat.le_trans ?_ (scan_len i l _)
      simp
    · exact scan_len i l s
theorem okFrom_weaken {fr fr' many : Int} {l : List Ed} (h : okFrom fr many l = true) (hf : ∀ e ∈ l.head?, fr' ≤ e.f0) : okFrom fr' many l = true := by
  cases l with
  | nil => rfl
  | cons e l =>
    obtain ⟨c1, c2, c3, c4, c5, h'⟩ := okFrom_cons h
    simp only [okFrom, h', Bool.and_true]
    exact decide_eq_true ⟨hf e (by simp), c2, c3, c4, c5⟩
theorem okFrom_mem {many : Int} : ∀ {l : List Ed} {fr : Int}, okFrom fr many l = true → ∀ e ∈ l, fr ≤ e.f0 ∧ 0 ≤ e.f1 ∧ e.f0 + e.f1 ≤ many
  | e :: l, fr, h, g, hg => by
    obtain ⟨c1, c2, c3, c4, c5, h'⟩ := okFrom_cons h
    rcases List.mem_cons.1 hg with rfl | hg
    · exact ⟨c1, c2, by omega⟩
    · have := okFrom_mem h' g hg
      exact ⟨by omega, this.2.1, this.2.2⟩
theorem RPlay_l1 (a : List ByteArray) (l : List Ed) (hn : l.length ≤ 1099511627776) (next0 : Int) (i : Int) (r : List ByteArray × Bool) : ∀ (d j : Nat) (s : List ByteArray × Int), l.length - j = d → j ≤ l.length → (scan i s (l.drop j)).1.length < 8796093022208 →
    Ev (fun k => grapevineref04_Play.l1 k a l (scan i s (l.drop j)).1 (scan i s (l.drop j)).2 i (l.length : Int)) r →
    Ev (fun k => grapevineref04_Play.l1 k a l s.1 s.2 i (j : Int)) r := by
  intro d
  induction d with
  | zero =>
    intro j s hd hj hb h
    rw [List.drop_of_length_le (by omega)] at h
    rw [show j = l.length by omega]
    exact h
  | succ d ih =>
    intro j s hd hj hb h
    refine Ev.step (fun _ => grapevineref04_Play.l1.eq_2 ..) ?_
    have h0 : j < l.length := by omega
    rw [List.drop_eq_getElem_cons h0] at h hb
    simp only [if_pos (show (j : Int) < (l.length : Int) by omega), if_pos (show 0 ≤ (j : Int) by omega), rdE_at h0, w_succ h0 (show l.length ≤ 4611686018427387904 by omega)]
    rw [scan] at h hb
    by_cases c : l[j].f0 = i
    · rw [if_pos c] at h hb
      have hlen := scan_len i (l.drop (j + 1)) (s.1 ++ l[j].f2, wrap64 (i + l[j].f1))
      simp only [List.length_append] at hlen
      simp only [if_pos c, if_pos (show s.1.length + l[j].f2.length < 8796093022208 by omega)]
      exact ih (j + 1) (s.1 ++ l[j].f2, wrap64 (i + l[j].f1)) (by omega) (by omega) hb h
    · rw [if_neg c] at h hb
      simp only [if_neg c]
      exact ih (j + 1) s (by omega) (by omega) hb h
theorem playFrom_step (a : List ByteArray) (m : List Ed) (i : Nat) (hi : i < a.length) (hm : ∀ e ∈ m.head?, (i : Int) < e.f0) : playFrom a i m = a[i] :: playFrom a (i + 1) m := by
  cases m with
  | nil => rw [playFrom, playFrom, List.drop_eq_getElem_cons hi]
  | cons e m =>
    have h := hm e (by simp)
    rw [playFrom, playFrom]
    have hlt : i < (a.take e.f0.toNat).length := by rw [List.length_take]; omega
    rw [List.drop_eq_getElem_cons hlt, List.getElem_take]
    rfl
theorem RPlay_l0 (a : List ByteArray) (l : List Ed) (ha : a.length ≤ 1099511627776) (hn : l.length ≤ 1099511627776) : ∀ (d i : Nat) (next : Int) (out : List ByteArray) (done m : List Ed), a.length + 1 - i = d → i ≤ a.length + 1 → 0 ≤ next → next ≤ a.length →
    l = done ++ m → (∀ e ∈ done, e.f0 < i) → (∀ e ∈ m, (i : Int) ≤ e.f0) → okFrom (max (i : Int) next) a.length m = true → out.length + (a.length + 1 - i) + insE m ≤ 4398046511104 →
    Ev (fun k => grapevineref04_Play.l0 k a l out next (i : Int)) (out ++ playFrom a (max (i : Int) next).toNat m, true) := by
  intro d
  induction d with
  | zero =>
    intro i next out done m hd hi h0 h1 hl hdn hm ho hb
    have hi' : i = a.length + 1 := by omega
    refine Ev.step (fun _ => grapevineref04_Play.l0.eq_2 ..) ?_
    simp only [if_neg (show ¬ (i : Int) ≤ (a.length : Int) by omega)]
    have hmn : m = [] := by
      cases m with
      | nil => rfl
      | cons e m =>
        obtain ⟨c1, c2, c3, _⟩ := okFrom_cons ho
        have := hm e (by simp)
        omega
    rw [hmn, playFrom, List.drop_of_length_le (by omega), List.append_nil]
    exact Ev.now _
  | succ d ih =>
    intro i next out done m hd hi h0 h1 hl hdn hm ho hb
    refine Ev.step (fun _ => grapevineref04_Play.l0.eq_2 ..) ?_
    simp only [if_pos (show (i : Int) ≤ (a.length : Int) by omega)]
    have hsd : scan i (out, next) done = (out, next) := scan_none _ _ _ (fun e he => by have := hdn e he; omega)
    have w1 : wrap64 ((i : Int) + 1) = ((i + 1 : Nat) : Int) := by rw [w_in (by omega) (by omega)]; rfl
    by_cases hit : ∃ e m', m = e :: m' ∧ e.f0 = i
    · obtain ⟨e, m', rfl, he⟩ := hit
      obtain ⟨c1, c2, c3, c4, c5, ho'⟩ := okFrom_cons ho
      have hm' : ∀ g ∈ m', (i : Int) + e.f1 + 1 ≤ g.f0 := fun g hg => by have := (okFrom_mem ho' g hg).1; omega
      have w2 : wrap64 ((i : Int) + e.f1) = (i : Int) + e.f1 := w_in (by omega) (by omega)
      have hsc : scan i (out, next) l = (out ++ e.f2, (i : Int) + e.f1) := by
        rw [hl, scan_append, hsd, scan, if_pos he, w2, scan_none _ _ _ (fun g hg => by have := hm' g hg; omega)]
      simp only [insE] at hb
      refine RPlay_l1 a l hn next i _ _ 0 (out, next) rfl (by omega) (by rw [List.drop_zero, hsc]; simp only [List.length_append]; omega) ?_
      rw [List.drop_zero, hsc]
      refine Ev.step (fun _ => grapevineref04_Play.l1.eq_2 ..) ?_
      simp only [if_neg (show ¬ (l.length : Int) < (l.length : Int) by omega), w1]
      have hl2 : l = (done ++ [e]) ++ m' := by rw [hl]; simp
      have hdn2 : ∀ g ∈ done ++ [e], g.f0 < ((i + 1 : Nat) : Int) := fun g hg => by
        rcases List.mem_append.1 hg with hg | hg
        · have := hdn g hg; omega
        · rw [List.mem_singleton.1 hg]; omega
      have hm2 : ∀ g ∈ m', ((i + 1 : Nat) : Int) ≤ g.f0 := fun g hg => by have := hm' g hg; omega
      have hhead : ∀ g ∈ m'.head?, (i : Int) + e.f1 + 1 ≤ g.f0 := fun g hg => hm' g (List.mem_of_mem_head? hg)
      have hok2 : okFrom (max ((i + 1 : Nat) : Int) ((i : Int) + e.f1)) a.length m' = true := okFrom_weaken ho' (fun g hg => by have := hhead g hg; omega)
      have hp : playFrom a (max (i : Int) next).toNat (e :: m') = e.f2 ++ playFrom a ((i : Int) + e.f1).toNat m' := by
        rw [playFrom, he, show (max (i : Int) next).toNat = i by omega, Int.toNat_natCast, List.drop_of_length_le (by rw [List.length_take]; omega), List.nil_append]
      rw [hp, ← List.append_assoc]
      by_cases c6 : (i : Int) ≥ (i : Int) + e.f1
      · have c6' : e.f1 = 0 := by omega
        simp only [if_pos c6]
        by_cases c7 : (i : Int) < (a.length : Int)
        · have c7' : i < a.length := by omega
          simp only [if_pos c7, if_pos (show 0 ≤ (i : Int) by omega), if_pos (show (out ++ e.f2).length < 8796093022208 by simp only [List.length_append]; omega), rdS_at c7']
          have h := ih (i + 1) ((i : Int) + e.f1) (out ++ e.f2 ++ [a[i]]) (done ++ [e]) m' (by omega) (by omega) (by omega) (by omega) hl2 hdn2 hm2 hok2 (by simp only [List.length_append, List.length_singleton]; omega)
          have e1 : playFrom a ((i : Int) + e.f1).toNat m' = a[i] :: playFrom a (i + 1) m' := by
            rw [show ((i : Int) + e.f1).toNat = i by omega]
            exact playFrom_step a m' i c7' (fun g hg => by have := hhead g hg; omega)
          rw [e1]
          rw [show (max ((i + 1 : Nat) : Int) ((i : Int) + e.f1)).toNat = i + 1 by omega, List.append_assoc (out ++ e.f2), List.singleton_append] at h
          exact h
        · simp only [if_neg c7]
          have h := ih (i + 1) ((i : Int) + e.f1) (out ++ e.f2) (done ++ [e]) m' (by omega) (by omega) (by omega) (by omega) hl2 hdn2 hm2 hok2 (by simp only [List.length_append]; omega)
          have hmn : m' = [] := by
            cases m' with
            | nil => rfl
            | cons g m'' =>
              have := hm' g (by simp)
              obtain ⟨_, _, d3, _⟩ := okFrom_cons ho'
              omega
          rw [hmn, playFrom, List.drop_of_length_le (by omega)] at h ⊢
          exact h
      · simp only [if_neg c6]
        have h := ih (i + 1) ((i : Int) + e.f1) (out ++ e.f2) (done ++ [e]) m' (by omega) (by omega) (by omega) (by omega) hl2 hdn2 hm2 hok2 (by simp only [List.length_append]; omega)
        rw [show (max ((i + 1 : Nat) : Int) ((i : Int) + e.f1)) = (i : Int) + e.f1 by omega] at h
        exact h
    · have hgt : ∀ e ∈ m.head?, (i : Int) < e.f0 := fun e he => by
        cases m with
        | nil => cases he
        | cons g m =>
          have e1 : g = e := by simpa using he
          subst e1
          have := hm g (by simp)
          by_cases e2 : g.f0 = i
          · exact absurd ⟨g, m, rfl, e2⟩ hit
          · omega
      have hall : ∀ e ∈ m, (i : Int) < e.f0 := fun e he => by
        cases m with
        | nil => cases he
        | cons g m =>
          have hg := hgt g (by simp)
          obtain ⟨_, d2, _, _, _, ho'⟩ := okFrom_cons ho
          rcases List.mem_cons.1 he with rfl | he
          · exact hg
          · have := (okFrom_mem ho' e he).1
            omega
      have hsc : scan i (out, next) l = (out, next) := by
        rw [hl, scan_append, hsd, scan_none _ _ _ (fun g hg => by have := hall g hg; omega)]
      refine RPlay_l1 a l hn next i _ _ 0 (out, next) rfl (by omega) (by rw [List.drop_zero, hsc]; show out.length < _; omega) ?_
      rw [List.drop_zero, hsc]
      refine Ev.step (fun _ => grapevineref04_Play.l1.eq_2 ..) ?_
      simp only [if_neg (show ¬ (l.length : Int) < (l.length : Int) by omega), w1]
      have hdn2 : ∀ g ∈ done, g.f0 < ((i + 1 : Nat) : Int) := fun g hg => by have := hdn g hg; omega
      have hm2 : ∀ g ∈ m, ((i + 1 : Nat) : Int) ≤ g.f0 := fun g hg => by have := hall g hg; omega
      have hok2 : okFrom (max ((i + 1 : Nat) : Int) next) a.length m = true := okFrom_weaken ho (fun g hg => by
        have h3 := hgt g hg
        have h4 := (okFrom_mem ho g (List.mem_of_mem_head? hg)).1
        omega)
      by_cases c6 : (i : Int) ≥ next
      · simp only [if_pos c6]
        by_cases c7 : (i : Int) < (a.length : Int)
        · have c7' : i < a.length := by omega
          simp only [if_pos c7, if_pos (show 0 ≤ (i : Int) by omega), if_pos (show out.length < 8796093022208 by omega), rdS_at c7']
          have h := ih (i + 1) next (out ++ [a[i]]) done m (by omega) (by omega) (by omega) (by omega) hl hdn2 hm2 hok2 (by simp only [List.length_append, List.length_singleton]; omega)
          rw [show (max (i : Int) next).toNat = i by omega, playFrom_step a m i c7' hgt]
          rw [show (max ((i + 1 : Nat) : Int) next).toNat = i + 1 by omega, List.append_assoc, List.singleton_append] at h
          exact h
        · simp only [if_neg c7]
          have h := ih (i + 1) next out done m (by omega) (by omega) (by omega) (by omega) hl hdn2 hm2 hok2 (by omega)
          have hmn : m = [] := by
            cases m with
            | nil => rfl
            | cons g m'' =>
              have := hgt g (by simp)
              obtain ⟨_, _, d3, _⟩ := okFrom_cons ho
              omega
          rw [hmn, playFrom, List.drop_of_length_le (by omega)] at h ⊢
          exact h
      · simp only [if_neg c6]
        have h := ih (i + 1) next out done m (by omega) (by omega) (by omega) (by omega) hl hdn2 hm2 hok2 (by omega)
        rw [show (max ((i + 1 : Nat) : Int) next) = next by omega] at h
        rw [show (max (i : Int) next) = next by omega]
        exact h
theorem RPlay_ev (a : List ByteArray) (l : List Ed) (ha : a.length ≤ 1099511627776) (hn : l.length ≤ 1099511627776) (hb : insE l ≤ 1099511627776) :
    Ev (fun k => grapevineref04_Play.f k a l) (if okFrom 0 a.length l = true then (playFrom a 0 l, true) else ([], false)) := by
  refine Ev.bind (RRight_ev (a.length : Int) l (by omega) (by omega) (by omega)) ?_
  by_cases h : okFrom 0 a.length l = true
  · simp only [if_pos h]
    have h2 := RPlay_l0 a l ha hn _ 0 0 [] [] l rfl (by omega) (by omega) (by omega) rfl (by simp) (fun e he => (okFrom_mem h e he).1) (by simpa using h) (by simp; omega)
    simpa using h2
  · simp only [if_neg h]
    exact Ev.now _
/-! ### Turn -/
def moreE : List Ed → Int
  | [] => 0
  | e :: l => ((e.f2.length : Int) - e.f1) + moreE l
theorem moreE_snoc : ∀ (l : List Ed) (e : Ed), moreE (l ++ [e]) = moreE l + ((e.f2.length : Int) - e.f1)
  | [], e => by simp [moreE]
  | g :: l, e => by rw [List.cons_append, moreE, moreE, moreE_snoc l e]; omega
theorem moreE_small {K : Int} : ∀ l : List Ed, (∀ e ∈ l, 0 ≤ e.f1 ∧ e.f1 ≤ K ∧ (e.f2.length : Int) ≤ K) → -(l.length * K) ≤ moreE l ∧ moreE l ≤ l.length * K
  | [], h => by simp [moreE]
  | e :: l, h => by
    have h1 := h e (by simp)
    have h2 := moreE_small l (fun g hg => h g (by simp [hg]))
    simp only [moreE, List.length_cons]
    push_cast
    rw [Int.add_mul, Int.one_mul]
    omega
theorem RTurn_l1 (a : List ByteArray) (l : List Ed) (hn : l.length ≤ 1048576) (hK : ∀ e ∈ l, 0 ≤ e.f1 ∧ e.f1 ≤ 1099511627776 ∧ (e.f2.length : Int) ≤ 1099511627776) (t : Bool) (out : List Ed) (i : Nat) (hi : i < l.length) (at0 del : Int) (ins : List ByteArray) (hat : 0 ≤ at0 ∧ at0 ≤ 1099511627776) (r : List Ed)
    (h : Ev (fun k => grapevineref04_Turn.l1 k a l t out (i : Int) (i : Int) (at0 + moreE (l.take i)) del ins) r) : ∀ (d n : Nat), i - n = d → n ≤ i →
    Ev (fun k => grapevineref04_Turn.l1 k a l t out (i : Int) (n : Int) (at0 + moreE (l.take n)) del ins) r := by
  intro d
  induction d with
  | zero =>
    intro n hd hle
    rw [show n = i by omega]
    exact h
  | succ d ih =>
    intro n hd hle
    refine Ev.step (fun _ => grapevineref04_Turn.l1.eq_2 ..) ?_
    have h0 : n < l.length := by omega
    have hk := hK l[n] (List.getElem_mem h0)
    have hs := moreE_small (l.take n) (fun e he => hK e (List.mem_of_mem_take he))
    rw [List.length_take, Nat.min_eq_left (by omega)] at hs
    have hnb : (n : Int) * 1099511627776 ≤ 1048576 * 1099511627776 := by omega
    simp only [if_pos (show (n : Int) < (i : Int) by omega), if_pos (show 0 ≤ (n : Int) by omega), if_pos (show (n : Int) < (l.length : Int) by omega), rdE_at h0, w_succ h0 (show l.length ≤ 4611686018427387904 by omega)]
    rw [w_in (x := at0 + moreE (l.take n) + (l[n].f2.length : Int)) (by omega) (by omega), w_in (by omega) (by omega)]
    have h2 := ih (n + 1) (by omega) (by omega)
    rw [List.take_succ_eq_append_getElem h0, moreE_snoc] at h2
    rw [show at0 + moreE (l.take n) + (l[n].f2.length : Int) - l[n].f1 = at0 + (moreE (l.take n) + ((l[n].f2.length : Int) - l[n].f1)) by omega]
    exact h2
theorem RTurn_l0 (a : List ByteArray) (l : List Ed) (ha : a.length ≤ 1099511627776) (hn : l.length ≤ 1048576) (hK : ∀ e ∈ l, 0 ≤ e.f0 ∧ 0 ≤ e.f1 ∧ e.f0 + e.f1 ≤ a.length ∧ (e.f2.length : Int) ≤ 1099511627776) : ∀ (d i : Nat) (out : List Ed), l.length - i = d → i ≤ l.length → out.length = i →
    Ev (fun k => grapevineref04_Turn.l0 k a l true out (i : Int)) (out ++ turnFrom a (moreE (l.take i)) (l.drop i)) := by
  intro d
  induction d with
  | zero =>
    intro i out hd hi ho
    refine Ev.step (fun _ => grapevineref04_Turn.l0.eq_2 ..) ?_
    simp only [if_neg (show ¬ (i : Int) < (l.length : Int) by omega)]
    refine Ev.step (fun _ => grapevineref04_Turn.j1.eq_2 ..) ?_
    simp only [Bool.false_eq_true, if_false]
    rw [show l.drop i = [] from List.drop_of_length_le (by omega), turnFrom, List.append_nil]
    exact Ev.now _
  | succ d ih =>
    intro i out hd hi ho
    refine Ev.step (fun _ => grapevineref04_Turn.l0.eq_2 ..) ?_
    have h0 : i < l.length := by omega
    have hk := hK l[i] (List.getElem_mem h0)
    have hw : wrap64 (l[i].f0 + l[i].f1) = l[i].f0 + l[i].f1 := w_in (by omega) (by omega)
    simp only [if_pos (show (i : Int) < (l.length : Int) by omega)]
    refine Ev.step (fun _ => grapevineref04_Turn.j1.eq_2 ..) ?_
    simp only [if_true, if_pos (show (i : Int) < (l.length : Int) by omega), if_pos (show 0 ≤ (i : Int) by omega), rdE_at h0, hw, Option.bind_some, if_pos hk.1, if_pos (show l[i].f0 ≤ l[i].f0 + l[i].f1 by omega), if_pos hk.2.2.1, List.nil_append, List.length_nil, Nat.zero_add]
    have hcl : ((a.take (l[i].f0 + l[i].f1).toNat).drop l[i].f0.toNat).length < 8796093022208 := by simp only [List.length_drop, List.length_take]; omega
    simp only [if_pos hcl]
    have hend := ih (i + 1) (out ++ [⟨l[i].f0 + moreE (l.take i), (l[i].f2.length : Int), (a.take (l[i].f0 + l[i].f1).toNat).drop l[i].f0.toNat⟩]) (by omega) (by omega) (by simp [ho])
    rw [List.take_succ_eq_append_getElem h0, moreE_snoc, List.append_assoc, List.singleton_append] at hend
    rw [List.drop_eq_getElem_cons h0, turnFrom]
    have hl1 := RTurn_l1 a l hn (fun e he => by have := hK e he; exact ⟨this.2.1, by omega, this.2.2.2⟩) true out i h0 l[i].f0 (l[i].f2.length : Int) ((a.take (l[i].f0 + l[i].f1).toNat).drop l[i].f0.toNat) ⟨hk.1, by omega⟩ (out ++ (⟨l[i].f0 + moreE (l.take i), (l[i].f2.length : Int), (a.take (l[i].f0 + l[i].f1).toNat).drop l[i].f0.toNat⟩ :: turnFrom a (moreE (l.take i) + ((l[i].f2.length : Int) - l[i].f1)) (l.drop (i + 1)))) (by
      refine Ev.step (fun _ => grapevineref04_Turn.l1.eq_2 ..) ?_
      simp only [if_neg (show ¬ (i : Int) < (i : Int) by omega), if_pos (show out.length < 3518437208883 by omega), w_succ h0 (show l.length ≤ 4611686018427387904 by omega)]
      exact hend) _ 0 rfl (by omega)
    simpa [moreE] using hl1
theorem RTurn_ev (a : List ByteArray) (l : List Ed) (ha : a.length ≤ 1099511627776) (hn : l.length ≤ 1048576) (hb : insE l ≤ 1099511627776) :
    Ev (fun k => grapevineref04_Turn.f k a l) (if okFrom 0 a.length l = true then turnFrom a 0 l else []) := by
  refine Ev.bind (RRight_ev (a.length : Int) l (by omega) (by omega) (by omega)) ?_
  have hins : ∀ {m : List Ed} {e : Ed}, e ∈ m → e.f2.length ≤ insE m := by
    intro m
    induction m with
    | nil => intro e he; cases he
    | cons g m ih =>
      intro e he
      rcases List.mem_cons.1 he with rfl | he
      · simp only [insE]; omega
      · have := ih he; simp only [insE]; omega
  by_cases h : okFrom 0 a.length l = true
  · simp only [if_pos h]
    rw [h]
    have h2 := RTurn_l0 a l ha hn (fun e he => by have h3 := okFrom_mem h e he; have h4 := hins he; exact ⟨h3.1, h3.2.1, h3.2.2, by omega⟩) _ 0 [] rfl (by omega) rfl
    simpa [moreE] using h2
  · simp only [if_neg h]
    rw [Bool.eq_false_iff.2 h]
    refine Ev.step (fun _ => grapevineref04_Turn.l0.eq_2 ..) ?_
    simp only [ite_self]
    refine Ev.step (fun _ => grapevineref04_Turn.j1.eq_2 ..) ?_
    simp only [Bool.false_eq_true, if_false]
    exact Ev.now _
end Go.Proofs.Ytebfopcihjadpaa.Pr
