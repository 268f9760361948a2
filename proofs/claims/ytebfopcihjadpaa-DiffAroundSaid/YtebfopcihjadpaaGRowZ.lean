/-
The kinds of the lower layers' arguments, with sizes: lists of texts, edits.
-/
import Derived.KernelRfl
import Derived.Test.YtebfopcihjadpaaGRowS
import Derived.Test.YtebfopcihjadpaaD0
namespace Go.Proofs.Ytebfopcihjadpaa.Pr
open Go.RowKit Go.Proofs.YtebfopcihjadpaaW.PrintWords Go.Proofs.YtebfopcihjadpaaW.PrintLast Go.Proofs.YtebfopcihjadpaaW.PrintMore
theorem rz_string : Rz Try.prog Kd.string (fun s => s.size ≤ 140737488351232) 9 := Rz.string (by kernel_rfl)
theorem rz_strings : Rz Try.prog (Kd.slice 9 Kd.string) (fun xs => xs.length * 16 ≤ 140737488351232 ∧ ∀ y ∈ xs, y.size ≤ 140737488351232) 22 := Rz.slice (e := 9) (by kernel_rfl) (by kernel_rfl) (by kernel_rfl) rz_string
theorem rz_int : Rz Try.prog (Kd.int .i64) (fun n => (Lit.int .i64 n).wf = true) 3 := Rz.int (by kernel_rfl)
end Go.Proofs.Ytebfopcihjadpaa.Pr
