/-
The row of the law UnifiedWhole, and its card.
-/
import Derived.Test.YtamojbfmphainaaDoorCards
import Derived.Test.YtamojbfmphainaaDoorTie
import Derived.Test.YtamojbfmphainaaDoorK2
import Derived.Test.YtamojbfmphainaaDoorK6
import Derived.WalkKit
import Derived.ProofKit
import Derived.OpenShut
import Derived.ShutString
import Derived.ChangeOld
import Derived.Below
import Derived.SizedLaws
import Derived.Carry
import Derived.Deep.DeepHandedRow
set_option linter.unusedVariables false
set_option linter.unusedSimpArgs false
namespace Go.Proofs.YtamojbfmphainaaDoor.unifiedWhole
open Go.ChangeShapes Go.WideShapes Go.ChangeAt Go.RowKit
open Go.ChangeMaps (open_string shut_string)
open Go.Proofs.YtamojbfmphainaaDoorW.PrintWords Go.Proofs.YtamojbfmphainaaDoorW.PrintLast Go.Proofs.YtamojbfmphainaaDoorW.PrintMore
theorem own:ownKnob Tryd.prog.godebug=none:=by kernel_rfl
theorem laidOut:laidOutB Tryd.prog=true:=by kernel_rfl
theorem laid_met (os:Os):laidMet Tryd.prog Rows.unifiedWholeRow.laid ((World.laidAll Tryd.prog os Pr.laidL).forCall (fun _ _=>0) ⟨#[],#[.string ⟨#[]⟩,.string ⟨#[]⟩,.int .u8 0],[]⟩).memory:=Pr.laidAll_met os _
theorem reads (os:Os) {H:Type} (enc:TypeId × Value→H):DataW.whole enc Tryd.prog ((World.laidAll Tryd.prog os Pr.laidL).forCall (fun _ _=>0) ⟨#[],#[.string ⟨#[]⟩,.string ⟨#[]⟩,.int .u8 0],[]⟩).memory Tryd.f7.params.toList Rows.unifiedWholeSpec.vars false #[Value.string ⟨#[]⟩,Value.string ⟨#[]⟩,Value.int .u8 0].toList 8=some ([.lit (.string []),.lit (.string []),.lit (.int .u8 0)],[],[]):=by kernel_rfl
set_option maxRecDepth 100000 in
theorem lifted (os:Os) (started:os.Started) (H:Type) (enc:TypeId × Value→H) (F:Stop.Interp) :
  ReturnsInHanded {} Tryd.checked os 7 .any ((OpenSpec.ofChange Rows.unifiedWholeSpec).preRow enc Tryd.prog Tryd.f7 Rows.unifiedWholeRow.domain false Rows.unifiedWholeRow.laid) (((OpenSpec.ofChange Rows.unifiedWholeSpec).at F).post enc Tryd.prog Tryd.f7 false true false false):=by
 refine returnsInHanded_of_row (C:=Tryd.checked) (s:=OpenSpec.ofChange Rows.unifiedWholeSpec) own started (by kernel_rfl) Tryd.func7
  (witness_row_at (enc:=enc) (C:=Tryd.checked) false (World.laidAll Tryd.prog os Pr.laidL) #[.string ⟨#[]⟩,.string ⟨#[]⟩,.int .u8 0] (World.laidAll_os _ _ _) (by kernel_rfl) (by kernel_rfl) (by kernel_rfl)
   (OpenSpec.preRow_of_cond 8 (reads os enc) (by kernel_rfl) (fun k hk=>by cases hk) (by kernel_rfl) (laid_met os))) ?_
 intro W base args ds gs before hval0 hW _ _ hsz0 hL hsh _
 have hsz:(DataW.weightsEach Tryd.prog (Tryd.f7.params.toList++Rows.unifiedWholeSpec.plain.varTypes Tryd.prog) (ds++gs)).all (·≤reachBytes)=true:=hsz0
 have hval:∀ (j:Nat) t v,Tryd.f7.params[j]?=some t→args[j]?=some v→Value.okWide Tryd.prog W .any base t v:=hval0
 have hW':=hW
 obtain ⟨p,q,hA0,hV,rfl,hfz,hnd⟩:=hW
 have hA:DataW.TrodAll enc Tryd.prog W 0 (fun _=>true) true Tryd.f7.params.toList args.toList ds p:=hA0
 rw [Tryd.params7] at hA hval hsz
 obtain ⟨v0,vs0,d0,ds0,p0,q0,hargs,rfl,rfl,h0,r0⟩:=trodAll_cons hA
 obtain ⟨v1,vs1,d1,ds1,p1,q1,rfl,rfl,rfl,h1,r1⟩:=trodAll_cons r0
 obtain ⟨v2,vs2,d2,ds2,p2,q2,rfl,rfl,rfl,h2,r2⟩:=trodAll_cons r1
 obtain ⟨rfl,rfl,rfl⟩:=trodAll_nil r2
 obtain rfl:args=#[v0,v1,v2]:=by cases args;simp_all
 obtain ⟨rfl,rfl⟩:=trodVars_none hV
 obtain ⟨a0,rfl,rfl,rfl,y0⟩:=open_string (by kernel_rfl) (hval 0 _ v0 rfl rfl) h0
 have w0:a0.size≤140737488351232:=by
  have z:=sized_string hsz (j:=0) rfl rfl
  rw [Array.length_toList] at z
  exact z
 obtain ⟨a1,rfl,rfl,rfl,y1⟩:=open_string (by kernel_rfl) (hval 1 _ v1 rfl rfl) h1
 have w1:a1.size≤140737488351232:=by
  have z:=sized_string hsz (j:=1) rfl rfl
  rw [Array.length_toList] at z
  exact z
 obtain ⟨a2,rfl,rfl,rfl,w2⟩:=open_int Tryd.underlying5 (hval 2 _ v2 rfl rfl) h2
 have HU:=Pr.laidU_of hL hsh
 clear hA0 hval0 hsz0 hsz
 refine (Pr.whole_law a0 a1 a2 W HU w2).mono ?_
 rintro e W' ⟨rfl,bel⟩
 exact ⟨_,rfl,_,_,_,[],_,[],hW',trodAll_mk1 (shut_bool Tryd.underlying4 _),(trodAll_cons_mk (shut_string (by kernel_rfl) y0) (trodAll_cons_mk (shut_string (by kernel_rfl) y1) (trodAll_cons_mk (shut_int Tryd.underlying5 w2) trodAll_mk0))),rfl,bel.frame _,fun h=>by cases h⟩
theorem said:Rows.UnifiedWholeSaid :=
 OpenClaim.holds_of_cond 7 Tryd.f7 rfl rfl rfl rfl rfl rfl rfl ⟨rfl,rfl,rfl,rfl,rfl⟩ rfl rfl rfl rfl rfl (by kernel_rfl) Tryd.func7 (by kernel_rfl)
  (of_decide_eq_true (by kernel_rfl)) (by unfold Func.isWrapper;first|(rw [if_pos (by decide +kernel)];kernel_rfl)|(rw [if_neg (by decide +kernel)];exact ⟨rfl,rfl⟩))
  (fun os started H enc _ F=>by rw [OpenClaim.pre_eq_preRow];exact lifted os started H enc F)
theorem plain (f : FuncId) (fn : Func) (hf : Tryd.pinned.checked.prog.funcNamed "grapevine/grapevinelaw06.UnifiedWhole" = some f) (hfn : Tryd.pinned.checked.prog.funcs[f]? = some fn) :
  true=Tryd.pinned.checked.prog.looks []∧∀ (j:Nat) t,fn.params[j]?=some t→Tryd.pinned.checked.prog.wantsStandIn t=false:=by
 obtain rfl : f = 7 := Option.some.inj ((show Tryd.prog.funcNamed "grapevine/grapevinelaw06.UnifiedWhole" = some 7 by kernel_rfl).symm.trans hf) |>.symm
 obtain rfl:fn=Tryd.f7:=(Option.some.inj (Tryd.func7.symm.trans hfn)).symm
 refine ⟨by kernel_rfl,fun j t ht=>?_⟩
 rw [Tryd.params7] at ht
 have e:=Array.mem_of_getElem? ht
 simp only [List.mem_toArray,List.mem_cons,List.not_mem_nil,or_false] at e
 rcases e with rfl|rfl|rfl<;>exact (show Tryd.prog.wantsStandIn _=false by kernel_rfl)
theorem card:Rows.UnifiedWholeCardSaid :=
 Claim7.holds_tied_plain_at .later [] _ _ _ _ said (fun _ h=>by cases h) (by kernel_rfl) (fun _ h=>by cases h) unifiedWhole_row_tie rfl ⟨rfl,rfl⟩ (by kernel_rfl) rfl plain (by kernel_rfl)
end Go.Proofs.YtamojbfmphainaaDoor.unifiedWhole
namespace Go.Proofs.YtamojbfmphainaaDoor
theorem unifiedWholeCard_holds:Rows.UnifiedWholeCardSaid:=unifiedWhole.card
#print axioms unifiedWholeCard_holds
end Go.Proofs.YtamojbfmphainaaDoor
-- shrunk
