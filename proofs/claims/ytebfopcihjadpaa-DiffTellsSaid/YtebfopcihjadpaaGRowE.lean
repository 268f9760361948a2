/-
The kinds of this layer's arguments: lists of texts, lists of edits.
-/
import Derived.KernelRfl
import Derived.Test.YtebfopcihjadpaaGRow
import Derived.Test.YtebfopcihjadpaaD0
namespace Go.Proofs.Ytebfopcihjadpaa.Pr
open Go.RowKit Go.Proofs.YtebfopcihjadpaaW.PrintWords Go.Proofs.YtebfopcihjadpaaW.PrintLast Go.Proofs.YtebfopcihjadpaaW.PrintMore
theorem rd_string : Rd Try.prog Kd.string 9 := Rd.string (by kernel_rfl)
theorem rd_strings : Rd Try.prog (Kd.slice 9 Kd.string) 22 := Rd.slice (e := 9) (by kernel_rfl) (by kernel_rfl) rd_string
theorem rd_int : Rd Try.prog (Kd.int .i64) 3 := Rd.int (by kernel_rfl)
theorem rd_edit : Rd Try.prog k29 29 := by
  refine Rd.iso (Rd.struct Try.underlying29 (by kernel_rfl) ?_) (fun y => ⟨⟨y.1, y.2.1, y.2.2⟩, rfl⟩)
  exact .cons rfl (by kernel_rfl) rd_int (.cons rfl (by kernel_rfl) rd_int (.last rfl (by kernel_rfl) rd_strings))
end Go.Proofs.Ytebfopcihjadpaa.Pr
