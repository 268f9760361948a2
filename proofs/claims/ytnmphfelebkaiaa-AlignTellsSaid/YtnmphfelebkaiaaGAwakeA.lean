/-
The chapter's example of layer 8: it answers true.
-/
import Derived.Test.YtnmphfelebkaiaaGAwakeA0
set_option linter.unusedVariables false
set_option linter.unusedSimpArgs false
namespace Go.Proofs.Ytnmphfelebkaiaa.Pr
open Go.RowKit Go.Proofs.YtnmphfelebkaiaaW.PrintWords Go.Proofs.YtnmphfelebkaiaaW.PrintLast Go.Proofs.YtnmphfelebkaiaaW.PrintMore
def exO:List ByteArray:=[⟨#[49]⟩,⟨#[50]⟩,⟨#[51]⟩]
def exA:List ByteArray:=[⟨#[49]⟩,⟨#[120]⟩,⟨#[51]⟩]
def exB:List ByteArray:=[⟨#[49]⟩,⟨#[50]⟩,⟨#[51]⟩,⟨#[52]⟩]
def exE0:Ed:=⟨1,1,[⟨#[120]⟩]⟩
def exE1:Ed:=⟨3,0,[⟨#[52]⟩]⟩
theorem ex_between0:between exO exA=[exE0]:=by
 have e:¬ (⟨#[50]⟩:ByteArray)=(⟨#[120]⟩:ByteArray):=by decide
 simp [exO,exA,exE0,between,midEdits,midOf,endOf,frontOf,common,steps,lcsLen,edits,addDel,addIns,opened,edLast,e]
theorem ex_between1:between exO exB=[exE1]:=by
 simp [exO,exB,exE1,between,midEdits,midOf,endOf,frontOf,common,steps,lcsLen,edits,addDel,addIns,opened,edLast]
def exC0:Cl:=⟨1,2,0,0,true,false⟩
def exC1:Cl:=⟨3,3,0,1,false,true⟩
theorem ex_ab0:absorb (startC [exE0] [exE1]) [exE0] [exE1]=(exC0,[],[exE1]):=by
 rw [absorb_0 (by decide)]
 exact absorb_no (c:=exC0) (l0:=[]) (l1:=[exE1]) (by decide) (by decide)
theorem ex_ab1:absorb (startC [] [exE1]) [] [exE1]=(exC1,[],[]):=by
 rw [absorb_1 (by decide) (by decide)]
 exact absorb_no (c:=exC1) (l0:=[]) (l1:=[]) (by decide) (by decide)
theorem ex_clusters:clusters [exE0] [exE1]=[exC0,exC1]:=by
 rw [clusters_cons (by decide),ex_ab0]
 dsimp only
 rw [clusters_cons (by decide),ex_ab1]
 dsimp only
 rw [clusters_nil (by decide)]
def exR:List S32:=[⟨0,⟨0,1⟩,⟨0,1⟩,⟨0,1⟩⟩,⟨1,⟨1,1⟩,⟨1,1⟩,⟨1,1⟩⟩,⟨0,⟨2,1⟩,⟨2,1⟩,⟨2,1⟩⟩,⟨2,⟨3,0⟩,⟨3,0⟩,⟨3,1⟩⟩]
theorem ex_regions:regionsP exO exA exB=exR:=by
 rw [regionsP,ex_between0,ex_between1,ex_clusters]
 rfl
theorem ex_right:rightR exO exA exB 0 0 0 exR=true:=by decide
def l08_awake.f:Option Bool:=some true
theorem ex_awake:l08_awake0.f=some true:=by
 have h1:align_Regions.f [⟨#[49]⟩,⟨#[50]⟩,⟨#[51]⟩] [⟨#[49]⟩,⟨#[120]⟩,⟨#[51]⟩] [⟨#[49]⟩,⟨#[50]⟩,⟨#[51]⟩,⟨#[52]⟩]=some exR:=(regions_some exO exA exB (by decide) (by decide) (by decide)).trans (congrArg some ex_regions)
 have h2:align_Right.f exR [⟨#[49]⟩,⟨#[50]⟩,⟨#[51]⟩] [⟨#[49]⟩,⟨#[120]⟩,⟨#[51]⟩] [⟨#[49]⟩,⟨#[50]⟩,⟨#[51]⟩,⟨#[52]⟩]=some true:=by
  rw [align_Right.f,if_pos ⟨by decide,by decide,by decide,by decide⟩]
  exact congrArg some ex_right
 unfold l08_awake0.f
 simp only [Option.bind_some]
 rw [h1,Option.bind_some,if_pos (by decide),h2,Option.bind_some]
 rfl
theorem l08_awake.calls (r:Bool) (w:World) (h:l08_awake.f=some r) :
  Calls Try.prog 7 #[] w fun e w'=>e=.returned (.bool r)∧Below w.heap.size w w':=by
 obtain rfl:=Option.some.inj h
 exact l08_awake0.calls true w ⟨rfl⟩ ex_awake
end Go.Proofs.Ytnmphfelebkaiaa.Pr
-- shrunk
