/-
The chapter's example of layer 4: it answers true.
-/
import Derived.Test.YtebfopcihjadpaaGAwake0
import Derived.Test.YtebfopcihjadpaaGSpecP
import Derived.Test.YtebfopcihjadpaaGDiff
namespace Go.Proofs.Ytebfopcihjadpaa.Pr
open Go.RowKit Go.Proofs.YtebfopcihjadpaaW.PrintWords Go.Proofs.YtebfopcihjadpaaW.PrintLast Go.Proofs.YtebfopcihjadpaaW.PrintMore
set_option linter.unusedVariables false
set_option linter.unusedSimpArgs false
theorem between_abc : between [(⟨#[97]⟩ : ByteArray), (⟨#[98]⟩ : ByteArray), (⟨#[99]⟩ : ByteArray)] [(⟨#[97]⟩ : ByteArray), (⟨#[120]⟩ : ByteArray), (⟨#[99]⟩ : ByteArray)] = [⟨1, 1, [(⟨#[120]⟩ : ByteArray)]⟩] := by
  have e : ¬ (⟨#[98]⟩ : ByteArray) = (⟨#[120]⟩ : ByteArray) := by decide
  simp [between, midEdits, midOf, endOf, frontOf, common, steps, lcsLen, edits, addDel, addIns, opened, edLast, e]
def grapevinelaw04_awake.f : Option Bool := some true
theorem grapevinelaw04_awake0.pure : ∃ k, grapevinelaw04_awake0.f k = some true := by
  refine Ev.rounds ?_
  unfold grapevinelaw04_awake0.f
  have o3 : okFrom 0 3 [(⟨1, 1, [(⟨#[120]⟩ : ByteArray)]⟩ : Ed)] = true := by decide
  refine Ev.bind (Ev.none_of fun _ => rfl) ?_
  refine Ev.bind (a := [⟨1, 1, [(⟨#[120]⟩ : ByteArray)]⟩]) (Ev.none_of fun _ => by rw [diff_Diff.f, if_pos (by simp), between_abc]) ?_
  have hp := Play_ev [(⟨#[97]⟩ : ByteArray), (⟨#[98]⟩ : ByteArray), (⟨#[99]⟩ : ByteArray)] [⟨1, 1, [(⟨#[120]⟩ : ByteArray)]⟩] (by simp) (by simp) (by simp [insE])
  rw [if_pos (by simpa using o3)] at hp
  refine Ev.bind hp ?_
  refine Ev.bind (Ev.none_of fun _ => Same_ev _ _ (by simp [Ok40])) ?_
  simp only [decide_true, if_true]
  refine Ev.bind (Texts_ev _ _ (by simp [playFrom])) ?_
  simp only [show decide (playFrom [(⟨#[97]⟩ : ByteArray), (⟨#[98]⟩ : ByteArray), (⟨#[99]⟩ : ByteArray)] 0 [⟨1, 1, [(⟨#[120]⟩ : ByteArray)]⟩] = [(⟨#[97]⟩ : ByteArray), (⟨#[120]⟩ : ByteArray), (⟨#[99]⟩ : ByteArray)]) = true from decide_eq_true (by simp [playFrom]), if_true]
  have hr := Right_ev 3 [⟨1, 1, [(⟨#[120]⟩ : ByteArray)]⟩] (by omega) (by omega) (by simp)
  rw [o3] at hr
  refine Ev.bind hr ?_
  simp only [if_true]
  have hs := Size_ev [⟨1, 1, [(⟨#[120]⟩ : ByteArray)]⟩] (by simp) (by simp [sizeE]; omega)
  refine Ev.bind hs ?_
  simp only [show sizeE [(⟨1, 1, [(⟨#[120]⟩ : ByteArray)]⟩ : Ed)] = 2 from (by simp [sizeE]; omega), if_true]
  have ht := Turn_ev [(⟨#[97]⟩ : ByteArray), (⟨#[98]⟩ : ByteArray), (⟨#[99]⟩ : ByteArray)] [⟨1, 1, [(⟨#[120]⟩ : ByteArray)]⟩] (by simp) (by simp) (by simp [insE])
  rw [if_pos (by simpa using o3)] at ht
  refine Ev.bind ht ?_
  exact Ev.none_of fun _ => by simp [turnFrom]
theorem grapevinelaw04_awake.calls (r : Bool) (w : World) (h : grapevinelaw04_awake.f = some r) :
    Calls Try.prog 13 #[] w fun e w' => e = .returned (.bool r) ∧ Below w.heap.size w w' := by
  obtain rfl := Option.some.inj h
  obtain ⟨k, hk⟩ := grapevinelaw04_awake0.pure
  exact grapevinelaw04_awake0.calls k true w ⟨rfl⟩ hk
end Go.Proofs.Ytebfopcihjadpaa.Pr
