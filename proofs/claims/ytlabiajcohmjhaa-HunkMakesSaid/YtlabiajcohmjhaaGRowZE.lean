/-
The kinds of the lower layers' arguments, with sizes: edits.
-/
import Derived.Test.YtlabiajcohmjhaaGM3
namespace Go.Proofs.Ytlabiajcohmjhaa.Pr
open Go.RowKit Go.Proofs.YtlabiajcohmjhaaW.PrintWords Go.Proofs.YtlabiajcohmjhaaW.PrintLast Go.Proofs.YtlabiajcohmjhaaW.PrintMore
theorem rz_edit : Rz Try.prog k51 (fun e => ∀ s ∈ e.f2, s.size ≤ 140737488351232) 51 := by
 refine Rz.mono (Rz.iso (Rz.struct Try.underlying51 (by kernel_rfl) (.cons rfl (by kernel_rfl) rz_int (.cons rfl (by kernel_rfl) rz_int (.last rfl (by kernel_rfl) rz_strings)))) (fun y => ⟨⟨y.1, y.2.1, y.2.2⟩, rfl⟩)) ?_
 intro x h
 exact h.2.2.2
end Go.Proofs.Ytlabiajcohmjhaa.Pr
-- shrunk
