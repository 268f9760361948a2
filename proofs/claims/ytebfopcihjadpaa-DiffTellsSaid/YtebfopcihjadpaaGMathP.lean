/-
Playing and turning edits: plain facts on lists, no program in sight.
-/
import Derived.Test.YtebfopcihjadpaaGSpecP
namespace Go.Proofs.Ytebfopcihjadpaa.Pr
set_option linter.unusedVariables false
set_option linter.unusedSimpArgs false
/-- What a rest of lines becomes; t: how many lines are behind us. -/
def playR (s : List ByteArray) (t : Int) : List Ed → List ByteArray
  | [] => s
  | e :: l => s.take (e.f0 - t).toNat ++ e.f2 ++ playR (s.drop (e.f0 - t + e.f1).toNat) (e.f0 + e.f1) l
def turnR (s : List ByteArray) (t more : Int) : List Ed → List Ed
  | [] => []
  | e :: l => ⟨e.f0 + more, (e.f2.length : Int), (s.drop (e.f0 - t).toNat).take e.f1.toNat⟩ :: turnR (s.drop (e.f0 - t + e.f1).toNat) (e.f0 + e.f1) (more + ((e.f2.length : Int) - e.f1)) l
theorem playFrom_R (a : List ByteArray) : ∀ (l : List Ed) (fr : Int) (t : Nat), (t : Int) ≤ fr → okFrom fr a.length l = true → playFrom a t l = playR (a.drop t) t l
  | [], fr, t, h, ho => rfl
  | e :: l, fr, t, h, ho => by
    obtain ⟨c1, c2, c3, c4, _, ho'⟩ := okFrom_cons ho
    simp only [playFrom, playR]
    rw [playFrom_R a l _ (e.f0 + e.f1).toNat (by omega) ho', List.drop_take, List.drop_drop, Int.toNat_of_nonneg (by omega), show e.f0.toNat - t = (e.f0 - (t : Int)).toNat by omega, show t + (e.f0 - (t : Int) + e.f1).toNat = (e.f0 + e.f1).toNat by omega]
theorem turnFrom_R (a : List ByteArray) : ∀ (l : List Ed) (fr : Int) (t : Nat) (more : Int), (t : Int) ≤ fr → okFrom fr a.length l = true → turnFrom a more l = turnR (a.drop t) t more l
  | [], fr, t, more, h, ho => rfl
  | e :: l, fr, t, more, h, ho => by
    obtain ⟨c1, c2, c3, c4, _, ho'⟩ := okFrom_cons ho
    simp only [turnFrom, turnR]
    rw [turnFrom_R a l _ (e.f0 + e.f1).toNat _ (by omega) ho', List.drop_drop, List.drop_drop, Int.toNat_of_nonneg (by omega), show t + (e.f0 - (t : Int) + e.f1).toNat = (e.f0 + e.f1).toNat by omega, show t + (e.f0 - (t : Int)).toNat = e.f0.toNat by omega, List.drop_take, show (e.f0 + e.f1).toNat - e.f0.toNat = e.f1.toNat by omega]
theorem okNext {e : Ed} {l : List Ed} {s : List ByteArray} {t fr : Int} (h : t ≤ fr) (ho : okFrom fr (t + s.length) (e :: l) = true) :
    okFrom (e.f0 + e.f1 + 1) (e.f0 + e.f1 + (s.drop (e.f0 - t + e.f1).toNat).length) l = true := by
  obtain ⟨c1, c2, c3, c4, _, ho'⟩ := okFrom_cons ho
  rw [List.length_drop]
  have e1 : e.f0 + e.f1 + ((s.length - (e.f0 - t + e.f1).toNat : Nat) : Int) = t + s.length := by omega
  rw [e1]
  exact ho'
/-- Turned and played, it is the first one again. -/
theorem playR_turnR : ∀ (l : List Ed) (s : List ByteArray) (t fr more : Int), t ≤ fr → okFrom fr (t + s.length) l = true → playR (playR s t l) (t + more) (turnR s t more l) = s
  | [], s, t, fr, more, h, ho => rfl
  | e :: l, s, t, fr, more, h, ho => by
    obtain ⟨c1, c2, c3, c4, _, ho'⟩ := okFrom_cons ho
    simp only [playR, turnR]
    have hl : (s.take (e.f0 - t).toNat).length = (e.f0 - t).toNat := by rw [List.length_take]; omega
    have e1 : (e.f0 + more - (t + more)).toNat = (e.f0 - t).toNat := by omega
    have e2 : (e.f0 + more - (t + more) + (e.f2.length : Int)).toNat = (s.take (e.f0 - t).toNat ++ e.f2).length := by rw [List.length_append, hl]; omega
    have e3 : e.f0 + more + (e.f2.length : Int) = (e.f0 + e.f1) + (more + ((e.f2.length : Int) - e.f1)) := by omega
    have e4 : ∀ R : List ByteArray, (s.take (e.f0 - t).toNat ++ e.f2 ++ R).take (e.f0 - t).toNat = s.take (e.f0 - t).toNat := fun R => by
      rw [List.append_assoc, List.take_append_of_le_length (by omega), List.take_take, Nat.min_self]
    rw [e2, e1, e3, List.drop_left, e4]
    rw [playR_turnR l _ _ _ _ (by omega) (okNext h ho)]
    rw [show (e.f0 - t + e.f1).toNat = (e.f0 - t).toNat + e.f1.toNat by omega, ← List.drop_drop, List.append_assoc, List.take_append_drop, List.take_append_drop]
/-- Turned edits are right. -/
theorem okFrom_turnR : ∀ (l : List Ed) (s : List ByteArray) (t fr more : Int), t ≤ fr → okFrom fr (t + s.length) l = true → okFrom (fr + more) (t + more + (playR s t l).length) (turnR s t more l) = true
  | [], s, t, fr, more, h, ho => rfl
  | e :: l, s, t, fr, more, h, ho => by
    obtain ⟨c1, c2, c3, c4, c5, ho'⟩ := okFrom_cons ho
    simp only [playR, turnR, okFrom]
    have hl : (s.take (e.f0 - t).toNat).length = (e.f0 - t).toNat := by rw [List.length_take]; omega
    have hd : ((s.drop (e.f0 - t).toNat).take e.f1.toNat).length = e.f1.toNat := by rw [List.length_take, List.length_drop]; omega
    have ih := okFrom_turnR l (s.drop (e.f0 - t + e.f1).toNat) (e.f0 + e.f1) (e.f0 + e.f1 + 1) (more + ((e.f2.length : Int) - e.f1)) (by omega) (okNext h ho)
    simp only [List.length_append, hl]
    generalize (playR (s.drop (e.f0 - t + e.f1).toNat) (e.f0 + e.f1) l).length = m at ih ⊢
    rw [show e.f0 + more + (e.f2.length : Int) + 1 = e.f0 + e.f1 + 1 + (more + ((e.f2.length : Int) - e.f1)) by omega]
    rw [show t + more + (((e.f0 - t).toNat + e.f2.length + m : Nat) : Int) = e.f0 + e.f1 + (more + ((e.f2.length : Int) - e.f1)) + (m : Int) by omega, ih, Bool.and_true]
    refine decide_eq_true ⟨by omega, by omega, by omega, by omega, fun hh => c5 ⟨?_, ?_⟩⟩
    · have h2 := congrArg List.length hh.2
      rw [hd] at h2
      simp at h2
      omega
    · exact List.eq_nil_of_length_eq_zero (by omega)
theorem sizeE_turnR : ∀ (l : List Ed) (s : List ByteArray) (t fr more : Int), t ≤ fr → okFrom fr (t + s.length) l = true → sizeE (turnR s t more l) = sizeE l
  | [], s, t, fr, more, h, ho => rfl
  | e :: l, s, t, fr, more, h, ho => by
    obtain ⟨c1, c2, c3, c4, c5, ho'⟩ := okFrom_cons ho
    simp only [turnR, sizeE]
    rw [sizeE_turnR l _ _ _ _ (show e.f0 + e.f1 ≤ e.f0 + e.f1 + 1 by omega) (okNext h ho)]
    rw [List.length_take, List.length_drop]
    omega
theorem insE_le : ∀ l : List Ed, (insE l : Int) ≤ sizeE l
  | [] => by simp [insE, sizeE]
  | e :: l => by have := insE_le l; simp only [insE, sizeE]; push_cast; omega
theorem length_playR : ∀ (l : List Ed) (s : List ByteArray) (t fr : Int), t ≤ fr → okFrom fr (t + s.length) l = true → (playR s t l).length ≤ s.length + insE l
  | [], s, t, fr, h, ho => by simp [playR, insE]
  | e :: l, s, t, fr, h, ho => by
    obtain ⟨c1, c2, c3, c4, c5, ho'⟩ := okFrom_cons ho
    simp only [playR, insE, List.length_append, List.length_take]
    have ih := length_playR l (s.drop (e.f0 - t + e.f1).toNat) (e.f0 + e.f1) (e.f0 + e.f1 + 1) (by omega) (okNext h ho)
    rw [List.length_drop] at ih
    omega
/-- The same, of whole lists. -/
theorem play_turn (a : List ByteArray) (l : List Ed) (ho : okFrom 0 a.length l = true) :
    okFrom 0 (playFrom a 0 l).length (turnFrom a 0 l) = true ∧ playFrom (playFrom a 0 l) 0 (turnFrom a 0 l) = a ∧ sizeE (turnFrom a 0 l) = sizeE l := by
  have e1 := playFrom_R a l 0 0 (by omega) ho
  have e2 := turnFrom_R a l 0 0 0 (by omega) ho
  rw [List.drop_zero] at e1 e2
  have ho2 : okFrom 0 (((0 : Nat) : Int) + a.length) l = true := by simpa using ho
  have h1 := okFrom_turnR l a ((0 : Nat) : Int) 0 0 (by omega) ho2
  have h1' : okFrom 0 (playFrom a 0 l).length (turnFrom a 0 l) = true := by rw [e1, e2]; simpa using h1
  refine ⟨h1', ?_, ?_⟩
  · have e3 := playFrom_R (playFrom a 0 l) (turnFrom a 0 l) 0 0 (by omega) h1'
    rw [e3, List.drop_zero]
    have h2 := playR_turnR l a ((0 : Nat) : Int) 0 0 (by omega) ho2
    rw [e1, e2]
    simpa using h2
  · rw [e2]
    exact sizeE_turnR l a _ _ _ (by omega) ho2
end Go.Proofs.Ytebfopcihjadpaa.Pr
