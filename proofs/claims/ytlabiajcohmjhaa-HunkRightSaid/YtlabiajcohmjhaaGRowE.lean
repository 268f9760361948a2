/-
The kinds of this layer's arguments: lists of texts, lists of edits.
-/
import Derived.KernelRfl
import Derived.Test.YtlabiajcohmjhaaGM3
import Derived.Test.YtlabiajcohmjhaaD0
namespace Go.Proofs.Ytlabiajcohmjhaa.Pr
open Go.RowKit Go.Proofs.YtlabiajcohmjhaaW.PrintWords Go.Proofs.YtlabiajcohmjhaaW.PrintLast Go.Proofs.YtlabiajcohmjhaaW.PrintMore
end Go.Proofs.Ytlabiajcohmjhaa.Pr
-- shrunk
