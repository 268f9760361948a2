/-
strings.Index of one byte; strings.Join.
-/
import Derived.Test.YtplclofakoffmaaGShelf
import Derived.Test.YtplclofakoffmaaD0
namespace Go.Proofs.Ytplclofakoffmaa.Pr
open Go.RowKit Go.Proofs.YtplclofakoffmaaW.PrintWords Go.Proofs.YtplclofakoffmaaW.PrintLast Go.Proofs.YtplclofakoffmaaW.PrintMore
set_option linter.unusedVariables false
set_option linter.unusedSimpArgs false
theorem index_one (s : ByteArray) (c : UInt8) (w : World) :
    Calls Try.prog 31 #[.string s, .string ⟨#[c]⟩] w fun e w' => e = .returned (.int .i64 (Lib.indexByte s.data.toList c)) ∧ w' = w := Try.strings_Index_one s c w
def strings_Index.f (a0 : ByteArray) (a1 : ByteArray) : Option Int := if a1.size = 1 then some (Lib.indexByte a0.data.toList (a1.data.toList.headD 0)) else none
theorem one_byte (a : ByteArray) (h : a.size = 1) : a = ⟨#[a.data.toList.headD 0]⟩ := by
  rcases a with ⟨⟨l⟩⟩
  match l with
  | [] => cases h
  | [c] => rfl
  | a :: b :: l => exact absurd (show l.length + 1 + 1 = 1 from h) (by omega)
theorem strings_Index.calls (a0 : ByteArray) (a1 : ByteArray) (r : Int) (w : World) (h : strings_Index.f a0 a1 = some r) :
    Calls Try.prog 31 #[.string a0, .string a1] w fun e w' => e = .returned (.int .i64 r) ∧ Drawn0 w w' := by
  unfold strings_Index.f at h
  by_cases hs : a1.size = 1
  · rw [if_pos hs] at h
    obtain rfl := Option.some.inj h
    have he := one_byte a1 hs
    have h1 := index_one a0 (a1.data.toList.headD 0) w
    rw [← he] at h1
    exact h1.mono fun e w' hh => ⟨hh.1, by rw [hh.2]; exact Drawn0.refl _⟩
  · rw [if_neg hs] at h; cases h
def joinB (l0 : List ByteArray) (a1 : ByteArray) : ByteArray := ⟨(Lib.join (l0.map (·.data.toList)) a1.data.toList).toArray⟩
def strings_Join.f (l0 : List ByteArray) (a1 : ByteArray) : Option ByteArray := if (joinB l0 a1).size ≤ 140737488355328 ∧ l0.length ≤ 140737488355328 then some (joinB l0 a1) else none
theorem strings_Join.calls (A0 : Option Addr) (c0 : Nat) (l0 : List ByteArray) (a1 : ByteArray) (r : ByteArray) (w : World) (hr0 : Kd.C Kd.string w A0 l0.length l0) (hc0 : l0.length ≤ c0) (h : strings_Join.f l0 a1 = some r) :
    Calls Try.prog 27 #[.slice A0 l0.length c0, .string a1] w fun e w' => e = .returned (.string r) ∧ Below w.heap.size w w' := by
  unfold strings_Join.f at h
  by_cases hs : (joinB l0 a1).size ≤ 140737488355328 ∧ l0.length ≤ 140737488355328
  · rw [if_pos hs] at h
    obtain rfl := Option.some.inj h
    rcases l0 with _ | ⟨x, l⟩
    · exact (Try.strings_Join_none A0 c0 a1 w).mono fun e w' hh => ⟨hh.1, by rw [hh.2]; exact Below.refl _ _⟩
    · obtain ⟨ad, rfl, hc⟩ := hr0.2.2 (by simp)
      have hcell : ∀ (j : Nat) y, (x :: l)[j]? = some y → w.cell? (ad.add j) = some (.string y) := by
        intro j y hy
        obtain ⟨c, _, rfl, h3⟩ := hc j y hy
        have h4 := h3 0 _ rfl
        rw [show Kd.string.sz = 1 from rfl, Nat.mul_one, Nat.add_zero] at h4
        exact h4
      rcases ad with ⟨bk, o, sp⟩
      have h0 := hcell 0 x rfl
      have hsp : sp = none := by
        cases sp with
        | none => rfl
        | some q =>
          exfalso
          unfold World.cell? at h0
          split at h0
          · simp [Addr.add] at h0
          · cases h0
      subst hsp
      have hbk : bk < w.heap.size := by
        unfold World.cell? at h0
        rcases hh : w.heap[bk]? with _ | ob
        · simp [Addr.add, hh] at h0
        · exact (Array.getElem?_eq_some_iff.1 hh).1
      exact Try.strings_Join bk o c0 (x :: l) a1 w (fun j y h_ => by have h2_ := hcell j y h_; rw [show (⟨bk, o, none⟩ : Addr).add j = ⟨bk, o + j, none⟩ from by cases j <;> simp [Addr.add]] at h2_; exact h2_) hbk hs.2 hc0 (by simpa [joinB, ByteArray.size] using hs.1)
  · rw [if_neg hs] at h; cases h
end Go.Proofs.Ytplclofakoffmaa.Pr
