import Derived.Test.YtnmphfelebkaiaaD6p2093
set_option linter.unusedVariables false
set_option linter.unusedSimpArgs false
namespace Go.Proofs.Ytnmphfelebkaiaa.Pr
open Go.RowKit Go.Proofs.YtnmphfelebkaiaaW.PrintWords Go.Proofs.YtnmphfelebkaiaaW.PrintLast Go.Proofs.YtnmphfelebkaiaaW.PrintMore
attribute [local go_sem] max2_int min2_int max_two min_two max_three min_three max_four min_four

theorem r08_Regions.calls.q1985:(r08_Regions.calls.p1652).1:=r08_Regions.calls.p1985.2 ⟨r08_Regions.calls.q2093⟩
theorem r08_Regions.calls.q1652:(r08_Regions.calls.p421).1:=r08_Regions.calls.p1652.2 ⟨r08_Regions.calls.q1985⟩
theorem r08_Regions.calls.q421:(r08_Regions.calls.p395).1:=r08_Regions.calls.p421.2 ⟨r08_Regions.calls.q1652⟩
theorem r08_Regions.calls.q395:(r08_Regions.calls.p122).1:=r08_Regions.calls.p395.2 ⟨r08_Regions.calls.q421⟩
theorem r08_Regions.calls.q122:(r08_Regions.calls.p0).1:=r08_Regions.calls.p122.2 ⟨r08_Regions.calls.q395⟩
theorem r08_Regions.calls.q0:∀ (k:Nat) (A0:Option Addr) (c0:Nat) (l0:List ByteArray) (A1:Option Addr) (c1:Nat) (l1:List ByteArray) (A2:Option Addr) (c2:Nat) (l2:List ByteArray) (r:List (S32)) (w:World) (hr0:Kd.C Kd.string w A0 l0.length l0) (hc0:l0.length≤c0) (hr1:Kd.C Kd.string w A1 l1.length l1) (hc1:l1.length≤c1) (hr2:Kd.C Kd.string w A2 l2.length l2) (hc2:l2.length≤c2) (h:r08_Regions.f k l0 l1 l2=some r),Calls Try.prog 10 #[.slice A0 l0.length c0,.slice A1 l1.length c1,.slice A2 l2.length c2] w fun e w'=>∃ v0_:Value,e=.returned (v0_)∧Kd.R k32 32 w' w.heap.size (fun _=>True) v0_ r∧Below w.heap.size w w':=r08_Regions.calls.p0.2 ⟨r08_Regions.calls.q122⟩
theorem r08_Regions.calls (k:Nat) (A0:Option Addr) (c0:Nat) (l0:List ByteArray) (A1:Option Addr) (c1:Nat) (l1:List ByteArray) (A2:Option Addr) (c2:Nat) (l2:List ByteArray) (r:List (S32)) (w:World) (hr0:Kd.C Kd.string w A0 l0.length l0) (hc0:l0.length≤c0) (hr1:Kd.C Kd.string w A1 l1.length l1) (hc1:l1.length≤c1) (hr2:Kd.C Kd.string w A2 l2.length l2) (hc2:l2.length≤c2) (h:r08_Regions.f k l0 l1 l2=some r):Calls Try.prog 10 #[.slice A0 l0.length c0,.slice A1 l1.length c1,.slice A2 l2.length c2] w fun e w'=>∃ v0_:Value,e=.returned (v0_)∧Kd.R k32 32 w' w.heap.size (fun _=>True) v0_ r∧Below w.heap.size w w':=r08_Regions.calls.q0 k A0 c0 l0 A1 c1 l1 A2 c2 l2 r w hr0 hc0 hr1 hc1 hr2 hc2 h
end Go.Proofs.Ytnmphfelebkaiaa.Pr
-- shrunk
