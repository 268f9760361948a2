/-
The kinds of this layer's arguments: lists of texts.
-/
import Derived.KernelRfl
import Derived.Test.YtplclofakoffmaaGRow
import Derived.Test.YtplclofakoffmaaD0
namespace Go.Proofs.Ytplclofakoffmaa.Pr
open Go.RowKit Go.Proofs.YtplclofakoffmaaW.PrintWords Go.Proofs.YtplclofakoffmaaW.PrintLast Go.Proofs.YtplclofakoffmaaW.PrintMore
theorem rd_string : Rd Try.prog Kd.string 9 := Rd.string (by kernel_rfl)
end Go.Proofs.Ytplclofakoffmaa.Pr
