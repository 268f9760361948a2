/-
Several plain texts in one.
-/
import Derived.Test.YtnmphfelebkaiaaProg
import Derived.Below
import Derived.Deep.Draws
import Derived.Deep.AppendLies
import Derived.Maps.AppendAt
import Derived.OwnWalk
import Derived.Laws.BytesArg
import Derived.Laws.MakeOwn
import Derived.Laws.OwnMore
import Derived.Deep.OwnRows
import Derived.Tactics
import Derived.Lib.ConvBytes
import Derived.Laws.Slices
import Derived.WalkKit
import Derived.KernelRfl
import Derived.RowKit3
import Derived.Deep.LoopGhost
import Derived.Deep.QuietTactic
import Derived.BigQuiet
import Derived.WideLaws
import Derived.Deep.DeepCutAuto
import Derived.Deep.CutBlock
import Derived.Deep.RegionHeld3
import Derived.Laws.Rows
import Derived.Lib.AppendStr
import Derived.ArgAppend
import Derived.Laws.IdiomCopy
import Derived.OrdersHeld
import Derived.Laws.BitsLemmas
import Derived.RowKit
import Derived.Laws.Runes
import Derived.Test.YtnmphfelebkaiaaWWords
import Derived.Test.YtnmphfelebkaiaaWLast
import Derived.Test.YtnmphfelebkaiaaWTab
import Derived.Test.YtnmphfelebkaiaaWFour
import Derived.Test.YtnmphfelebkaiaaWQPut
import Derived.Test.YtnmphfelebkaiaaWApart
import Derived.Test.YtnmphfelebkaiaaWArr
import Derived.Test.YtnmphfelebkaiaaWZeros
import Derived.Test.YtnmphfelebkaiaaWFoot
import Derived.Test.YtnmphfelebkaiaaWKept
import Derived.Test.YtnmphfelebkaiaaWShare
import Derived.Test.YtnmphfelebkaiaaWN
import Derived.Test.YtnmphfelebkaiaaWFootNe
import Derived.Test.YtnmphfelebkaiaaWAt
import Derived.Test.YtnmphfelebkaiaaWEqStruct
import Derived.Test.YtnmphfelebkaiaaWRepsOne
import Derived.Test.YtnmphfelebkaiaaWInv
import Derived.Test.YtnmphfelebkaiaaWInvWords
import Derived.Test.YtnmphfelebkaiaaWGuard
import Derived.Test.YtnmphfelebkaiaaWNEv
import Derived.Test.YtnmphfelebkaiaaWMore
import Derived.Lib.SlicesS
import Derived.RangeFuncBox
import Derived.OrdersIn
import Derived.RangeFuncCalls
import Derived.RangeFuncLeaves
import Derived.Shelf.Abstract
import Derived.OwnWalkIn
import Derived.TacticsInMore
import Derived.LoopNIn
import Derived.LoopIn
import Derived.WalkSpells
set_option linter.unusedVariables false
set_option linter.unusedSimpArgs false
-- written by a program of this session's (a turned copy of the kit's printer); Lean checks it
namespace Go.Proofs.Ytnmphfelebkaiaa.Pr
open Go.RowKit Go.Proofs.YtnmphfelebkaiaaW.PrintWords Go.Proofs.YtnmphfelebkaiaaW.PrintLast Go.Proofs.YtnmphfelebkaiaaW.PrintMore
attribute [local go_sem] max2_int min2_int max_two min_two max_three min_three max_four min_four   -- for this text's walks alone



def errW:Option Int→Value
 | none=>.nilIface
 | some c=>.iface 0 (.int .i64 c)
theorem errW_none:errW none=.nilIface:=rfl
theorem errW_some (c:Int):errW (some c)=.iface 0 (.int .i64 c):=rfl

theorem info3:(Try.prog.info? 3).map (fun i=>(i.zero,i.size,i.bytes))=some (some (.int .i64 0),1,8):=by kernel_rfl
theorem info9:(Try.prog.info? 9).map (fun i=>(i.zero,i.size,i.bytes))=some (some (.string ⟨#[]⟩),1,16):=by kernel_rfl
theorem info32:(Try.prog.info? 32).map (fun i=>(i.zero,i.size,i.bytes))=some (some (.agg #[(.int .i64 0),(.int .i64 0),(.int .i64 0),(.int .i64 0),(.int .i64 0),(.int .i64 0),(.int .i64 0)]),7,56):=by kernel_rfl
theorem info52:(Try.prog.info? 52).map (fun i=>(i.zero,i.size,i.bytes))=some (some (.agg #[(.int .i64 0),(.int .i64 0),(.slice none 0 0)]),3,40):=by kernel_rfl
structure S52 where
 f0:Int
 f1:Int
 f2:(List ByteArray)
def z52:S52:=⟨(0:Int),(0:Int),([]:List ByteArray)⟩
def k52:Kd S52:=Kd.iso (Kd.pair (Kd.int .i64) (Kd.pair (Kd.int .i64) (Kd.slice 9 Kd.string))) (fun x:S52=>(x.f0,x.f1,x.f2))
theorem k52_open {w:World} {x:S52} {cs:List Value} (h:k52.K w x cs):∃ A2 c2,cs=[.int .i64 x.f0,.int .i64 x.f1,.slice A2 x.f2.length c2]∧x.f2.length≤c2∧Kd.string.C w A2 x.f2.length x.f2:=by
 obtain ⟨_,_,rfl,rfl,⟨_,_,rfl,rfl,⟨A2,c2,rfl,l2,g2⟩⟩⟩:=h
 exact ⟨A2,c2,rfl,l2,g2⟩
theorem k52_openM {w:World} {base:Nat} {ok:Nat→Prop} {x:S52} {cs:List Value} (h:k52.M w base ok x cs):∃ v2,cs=[.int .i64 x.f0,.int .i64 x.f1,v2]∧Kd.string.R 9 w base ok v2 x.f2:=by
 obtain ⟨_,_,rfl,rfl,⟨_,_,rfl,rfl,⟨v2,rfl,g2⟩⟩⟩:=h
 exact ⟨v2,rfl,g2⟩
theorem k52_mk (w:World) (x:S52) {A2:Option Addr} {c2:Nat} (l2:x.f2.length≤c2) (g2:Kd.string.C w A2 x.f2.length x.f2):k52.K w x [.int .i64 x.f0,.int .i64 x.f1,.slice A2 x.f2.length c2]:=⟨[.int .i64 x.f0],[.int .i64 x.f1,.slice A2 x.f2.length c2],rfl,rfl,⟨[.int .i64 x.f1],[.slice A2 x.f2.length c2],rfl,rfl,⟨A2,c2,rfl,l2,g2⟩⟩⟩
theorem k52_mkM (w:World) (base:Nat) (ok:Nat→Prop) (x:S52) {v2:Value} (g2:Kd.string.R 9 w base ok v2 x.f2):k52.M w base ok x [.int .i64 x.f0,.int .i64 x.f1,v2]:=⟨[.int .i64 x.f0],[.int .i64 x.f1,v2],rfl,rfl,⟨[.int .i64 x.f1],[v2],rfl,rfl,⟨v2,rfl,g2⟩⟩⟩
theorem k52_openF {W:World} {ok:Nat→Prop} {x:S52} {cs:List Value} (h:Kd.FK k52 W ok x cs):∃ A2 c2,cs=[.int .i64 x.f0,.int .i64 x.f1,.slice A2 x.f2.length c2]∧x.f2.length≤c2∧Kd.F Kd.string W ok A2 x.f2.length x.f2:=by
 obtain ⟨A2,c2,rfl,l2,_⟩:=k52_open (Kd.FK_now h)
 exact ⟨A2,c2,rfl,l2,(fun W' hW=>by obtain ⟨A2_,c2_,he,l2_,g2_⟩:=k52_open (h W' hW);injection (Option.some.inj (show some (Value.slice A2 x.f2.length c2)=some (Value.slice A2_ x.f2.length c2_) from congrArg (fun l=>l[2]?) he)) with ha_ _ _;rw [ha_];exact g2_)⟩
theorem k52_mkF (W:World) (ok:Nat→Prop) (x:S52) {A2:Option Addr} {c2:Nat} (l2:x.f2.length≤c2) (g2:Kd.F Kd.string W ok A2 x.f2.length x.f2):Kd.FK k52 W ok x [.int .i64 x.f0,.int .i64 x.f1,.slice A2 x.f2.length c2]:=fun W2 hW=>k52_mk W2 x l2 (g2 W2 hW)
def rd_T52 (xs:List S52) (i:Int):S52:=xs.getD i.toNat z52
theorem at_T52 {w:World} {A:Option Addr} {n:Nat} {xs:List S52} (h:Kd.C k52 w A n xs) (i:Int) (h0:0≤i) (h1:i<n):∃ ad A2 c2,A=some ad∧w.cell? (ad.add (i.toNat * 3))=some (.int .i64 (rd_T52 xs i).f0)∧w.cell? ⟨(ad.add (i.toNat * 3)).block,(ad.add (i.toNat * 3)).off+1,none⟩=some (.int .i64 (rd_T52 xs i).f1)∧w.cell? ⟨(ad.add (i.toNat * 3)).block,(ad.add (i.toNat * 3)).off+2,none⟩=some (.slice A2 (rd_T52 xs i).f2.length c2)∧(rd_T52 xs i).f2.length≤c2∧Kd.string.C w A2 (rd_T52 xs i).f2.length (rd_T52 xs i).f2:=by
 obtain ⟨ad,c,e,_,hK,hc0⟩:=Kd.C_get h z52 i h0 h1
 have hc:∀ j u,c[j]?=some u→w.cell? (ad.add (i.toNat * 3+j))=some u:=hc0
 obtain ⟨A2,c2,rfl,l2,g2⟩:=k52_open hK
 exact ⟨ad,A2,c2,e,hc 0 _ rfl,by rw [← add_field _ _ 1 (by omega)];exact hc 1 _ rfl,by rw [← add_field _ _ 2 (by omega)];exact hc 2 _ rfl,l2,g2⟩

structure S30 where
 f0:Int
 f1:Int
def z30:S30:=⟨(0:Int),(0:Int)⟩
def k30:Kd S30:=Kd.iso (Kd.pair (Kd.int .i64) (Kd.int .i64)) (fun x:S30=>(x.f0,x.f1))
theorem k30_open {w:World} {x:S30} {cs:List Value} (h:k30.K w x cs):cs=[.int .i64 x.f0,.int .i64 x.f1]:=by
 obtain ⟨_,_,rfl,rfl,rfl⟩:=h
 exact rfl
theorem k30_openM {w:World} {base:Nat} {ok:Nat→Prop} {x:S30} {cs:List Value} (h:k30.M w base ok x cs):cs=[.int .i64 x.f0,.int .i64 x.f1]:=by
 obtain ⟨_,_,rfl,rfl,rfl⟩:=h
 exact rfl
theorem k30_mkM (w:World) (base:Nat) (ok:Nat→Prop) (x:S30) :k30.M w base ok x [.int .i64 x.f0,.int .i64 x.f1]:=⟨[.int .i64 x.f0],[.int .i64 x.f1],rfl,rfl,rfl⟩
structure S32 where
 f0:Int
 f1:S30
 f2:S30
 f3:S30
def z32:S32:=⟨(0:Int),z30,z30,z30⟩
def k32:Kd S32:=Kd.iso (Kd.pair (Kd.int .i64) (Kd.pair k30 (Kd.pair k30 k30))) (fun x:S32=>(x.f0,x.f1,x.f2,x.f3))
theorem k32_open {w:World} {x:S32} {cs:List Value} (h:k32.K w x cs):cs=[.int .i64 x.f0,.int .i64 x.f1.f0,.int .i64 x.f1.f1,.int .i64 x.f2.f0,.int .i64 x.f2.f1,.int .i64 x.f3.f0,.int .i64 x.f3.f1]:=by
 obtain ⟨_,_,rfl,rfl,⟨_,_,rfl,s1,⟨_,_,rfl,s3,s5⟩⟩⟩:=h
 obtain rfl:=k30_open s1
 obtain rfl:=k30_open s3
 obtain rfl:=k30_open s5
 exact rfl
theorem k32_openM {w:World} {base:Nat} {ok:Nat→Prop} {x:S32} {cs:List Value} (h:k32.M w base ok x cs):cs=[.int .i64 x.f0,.int .i64 x.f1.f0,.int .i64 x.f1.f1,.int .i64 x.f2.f0,.int .i64 x.f2.f1,.int .i64 x.f3.f0,.int .i64 x.f3.f1]:=by
 obtain ⟨_,_,rfl,rfl,⟨_,_,rfl,s1,⟨_,_,rfl,s3,s5⟩⟩⟩:=h
 obtain rfl:=k30_openM s1
 obtain rfl:=k30_openM s3
 obtain rfl:=k30_openM s5
 exact rfl
theorem k32_mkM (w:World) (base:Nat) (ok:Nat→Prop) (x:S32) :k32.M w base ok x [.int .i64 x.f0,.int .i64 x.f1.f0,.int .i64 x.f1.f1,.int .i64 x.f2.f0,.int .i64 x.f2.f1,.int .i64 x.f3.f0,.int .i64 x.f3.f1]:=⟨[.int .i64 x.f0],[.int .i64 x.f1.f0,.int .i64 x.f1.f1,.int .i64 x.f2.f0,.int .i64 x.f2.f1,.int .i64 x.f3.f0,.int .i64 x.f3.f1],rfl,rfl,⟨[.int .i64 x.f1.f0,.int .i64 x.f1.f1],[.int .i64 x.f2.f0,.int .i64 x.f2.f1,.int .i64 x.f3.f0,.int .i64 x.f3.f1],rfl,(k30_mkM w base ok x.f1 ),⟨[.int .i64 x.f2.f0,.int .i64 x.f2.f1],[.int .i64 x.f3.f0,.int .i64 x.f3.f1],rfl,(k30_mkM w base ok x.f2 ),(k30_mkM w base ok x.f3 )⟩⟩⟩
def rd_T32 (xs:List S32) (i:Int):S32:=xs.getD i.toNat z32
theorem at_T32 {w:World} {A:Option Addr} {n:Nat} {xs:List S32} (h:Kd.C k32 w A n xs) (i:Int) (h0:0≤i) (h1:i<n):∃ ad ,A=some ad∧w.cell? (ad.add (i.toNat * 7))=some (.int .i64 (rd_T32 xs i).f0)∧w.cell? ⟨(ad.add (i.toNat * 7)).block,(ad.add (i.toNat * 7)).off+1,none⟩=some (.int .i64 (rd_T32 xs i).f1.f0)∧w.cell? ⟨(ad.add (i.toNat * 7)).block,(ad.add (i.toNat * 7)).off+2,none⟩=some (.int .i64 (rd_T32 xs i).f1.f1)∧w.cell? ⟨(ad.add (i.toNat * 7)).block,(ad.add (i.toNat * 7)).off+3,none⟩=some (.int .i64 (rd_T32 xs i).f2.f0)∧w.cell? ⟨(ad.add (i.toNat * 7)).block,(ad.add (i.toNat * 7)).off+4,none⟩=some (.int .i64 (rd_T32 xs i).f2.f1)∧w.cell? ⟨(ad.add (i.toNat * 7)).block,(ad.add (i.toNat * 7)).off+5,none⟩=some (.int .i64 (rd_T32 xs i).f3.f0)∧w.cell? ⟨(ad.add (i.toNat * 7)).block,(ad.add (i.toNat * 7)).off+6,none⟩=some (.int .i64 (rd_T32 xs i).f3.f1):=by
 obtain ⟨ad,c,e,_,hK,hc0⟩:=Kd.C_get h z32 i h0 h1
 have hc:∀ j u,c[j]?=some u→w.cell? (ad.add (i.toNat * 7+j))=some u:=hc0
 obtain rfl:=k32_open hK
 exact ⟨ad,e,hc 0 _ rfl,by rw [← add_field _ _ 1 (by omega)];exact hc 1 _ rfl,by rw [← add_field _ _ 2 (by omega)];exact hc 2 _ rfl,by rw [← add_field _ _ 3 (by omega)];exact hc 3 _ rfl,by rw [← add_field _ _ 4 (by omega)];exact hc 4 _ rfl,by rw [← add_field _ _ 5 (by omega)];exact hc 5 _ rfl,by rw [← add_field _ _ 6 (by omega)];exact hc 6 _ rfl⟩

end Go.Proofs.Ytnmphfelebkaiaa.Pr
-- shrunk
/-
What is between two lists of texts, as plain functions on lists: the longest common subsequence's length, the way, and the edits of the way.
-/
namespace Go.Proofs.Ytnmphfelebkaiaa.Pr
open Go.RowKit Go.Proofs.YtnmphfelebkaiaaW.PrintWords Go.Proofs.YtnmphfelebkaiaaW.PrintLast Go.Proofs.YtnmphfelebkaiaaW.PrintMore
abbrev Ed:=S52
def lcsLen:List ByteArray→List ByteArray→Nat
 | [],_=>0
 | _ :: _,[]=>0
 | x :: xs,y :: ys=>if x=y then lcsLen xs ys+1 else max (lcsLen xs (y :: ys)) (lcsLen (x :: xs) ys)
termination_by xs ys=>xs.length+ys.length
inductive Step where
 | keep
 | del
 | ins (s:ByteArray)
def steps:List ByteArray→List ByteArray→List Step
 | [],[]=>[]
 | [],y :: ys=>.ins y :: steps [] ys
 | _ :: xs,[]=>.del :: steps xs []
 | x :: xs,y :: ys=>if x=y then .keep :: steps xs ys else if lcsLen (x :: xs) ys≤lcsLen xs (y :: ys) then .del :: steps xs (y :: ys) else .ins y :: steps (x :: xs) ys
termination_by xs ys=>xs.length+ys.length
def edLast (out:List Ed):Ed:=out.getD (out.length - 1) ⟨0,0,[]⟩
def opened (at_:Int) (op:Bool) (out:List Ed):List Ed:=if op=true then out else out++[⟨at_,0,[]⟩]
def addDel (out:List Ed):List Ed:=out.set (out.length - 1) ⟨(edLast out).f0,(edLast out).f1+1,(edLast out).f2⟩
def addIns (s:ByteArray) (out:List Ed):List Ed:=out.set (out.length - 1) ⟨(edLast out).f0,(edLast out).f1,(edLast out).f2++[s]⟩
def edits (at_:Int) (op:Bool) (out:List Ed):List Step→List Ed
 | []=>out
 | .keep :: r=>edits (at_+1) false out r
 | .del :: r=>edits (at_+1) true (addDel (opened at_ op out)) r
 | .ins s :: r=>edits at_ true (addIns s (opened at_ op out)) r
def common:List ByteArray→List ByteArray→Nat
 | x :: xs,y :: ys=>if x=y then common xs ys+1 else 0
 | _,_=>0
def midEdits (at_:Int) (x y:List ByteArray):List Ed :=
 if x=[]∧y=[] then [] else if x=[]∨y=[]∨65536<x.length * y.length then [⟨at_,(x.length:Int),y⟩] else edits at_ false [] (steps x y)
def frontOf (a b:List ByteArray):Nat:=common a b
def endOf (a b:List ByteArray):Nat:=common (a.drop (frontOf a b)).reverse (b.drop (frontOf a b)).reverse
def midOf (a b:List ByteArray):List ByteArray:=(a.drop (frontOf a b)).take ((a.drop (frontOf a b)).length - endOf a b)
def between (a b:List ByteArray):List Ed :=
 midEdits (frontOf a b:Int) (midOf a b) ((b.drop (frontOf a b)).take ((b.drop (frontOf a b)).length - endOf a b))
theorem opened_ne (at_:Int) (op:Bool) (out:List Ed) (h:op=true→out≠[]):opened at_ op out≠[]:=by
 unfold opened;split
 ·exact h ‹_›
 simp
theorem addDel_ne (out:List Ed) (h:out≠[]):addDel out≠[]:=by
 unfold addDel;intro e;rw [List.set_eq_nil_iff] at e;exact h e
theorem addIns_ne (s:ByteArray) (out:List Ed) (h:out≠[]):addIns s out≠[]:=by
 unfold addIns;intro e;rw [List.set_eq_nil_iff] at e;exact h e
end Go.Proofs.Ytnmphfelebkaiaa.Pr
-- shrunk
/-
The regions of three lists, as align makes them: clusters of edits that meet, and the regions between and of them. Plain Lean.
-/
namespace Go.Proofs.Ytnmphfelebkaiaa.Pr
structure Cl where
 f:Int
 t:Int
 m0:Int
 m1:Int
 h0:Bool
 h1:Bool
def hdE (l:List Ed):Ed:=l.getD 0 z52
def meetsE (t:Int) (l:List Ed):Bool:=decide (0<l.length) && decide ((hdE l).f0≤t)
def take0 (c:Cl) (e:Ed):Cl:=⟨c.f,max c.t (e.f0+e.f1),c.m0+((e.f2.length:Int) - e.f1),c.m1,true,c.h1⟩
def take1 (c:Cl) (e:Ed):Cl:=⟨c.f,max c.t (e.f0+e.f1),c.m0,c.m1+((e.f2.length:Int) - e.f1),c.h0,true⟩
theorem meets_len {t:Int} {l:List Ed} (h:meetsE t l=true):0<l.length:=by
 rw [meetsE,Bool.and_eq_true,decide_eq_true_eq] at h
 exact h.1
def absorb (c:Cl) (l0 l1:List Ed):Cl × List Ed × List Ed :=
 if h0:meetsE c.t l0=true then absorb (take0 c (hdE l0)) (l0.drop 1) l1
 else if h1:meetsE c.t l1=true then absorb (take1 c (hdE l1)) l0 (l1.drop 1)
 else (c,l0,l1)
termination_by l0.length+l1.length
decreasing_by
 ·have:=meets_len h0;rw [List.length_drop];omega
 ·have:=meets_len h1;rw [List.length_drop];omega
theorem absorb_0 {c:Cl} {l0 l1:List Ed} (h:meetsE c.t l0=true):absorb c l0 l1=absorb (take0 c (hdE l0)) (l0.drop 1) l1:=by rw [absorb,dif_pos h]
theorem absorb_1 {c:Cl} {l0 l1:List Ed} (h:meetsE c.t l0=false) (h1:meetsE c.t l1=true):absorb c l0 l1=absorb (take1 c (hdE l1)) l0 (l1.drop 1):=by rw [absorb,dif_neg (by rw [h];decide),dif_pos h1]
theorem absorb_no {c:Cl} {l0 l1:List Ed} (h:meetsE c.t l0=false) (h1:meetsE c.t l1=false):absorb c l0 l1=(c,l0,l1):=by rw [absorb,dif_neg (by rw [h];decide),dif_neg (by rw [h1];decide)]
theorem absorb_le (c:Cl) (l0 l1:List Ed):(absorb c l0 l1).2.1.length≤l0.length∧(absorb c l0 l1).2.2.length≤l1.length:=by
 generalize hn:l0.length+l1.length=n
 induction n using Nat.strongRecOn generalizing c l0 l1 with
 | _ n ih =>
  cases h0:meetsE c.t l0 with
  | true =>
   have hl:=meets_len h0
   rw [absorb_0 h0]
   have:=ih _ (by rw [← hn,List.length_drop];omega) (take0 c (hdE l0)) (l0.drop 1) l1 rfl
   rw [List.length_drop] at this
   omega
  | false =>
   cases h1:meetsE c.t l1 with
   | true =>
    have hl:=meets_len h1
    rw [absorb_1 h0 h1]
    have:=ih _ (by rw [← hn,List.length_drop];omega) (take1 c (hdE l1)) l0 (l1.drop 1) rfl
    rw [List.length_drop] at this
    omega
   | false=>rw [absorb_no h0 h1];exact ⟨Nat.le_refl _,Nat.le_refl _⟩
def side1 (l0 l1:List Ed):Bool:=decide (l0.length=0) || (decide (0<l1.length) && decide ((hdE l1).f0<(hdE l0).f0))
def startC (l0 l1:List Ed):Cl:=let s:=if side1 l0 l1=true then (hdE l1).f0 else (hdE l0).f0;⟨s,s,0,0,false,false⟩
theorem start_lt (l0 l1:List Ed) (h:0<l0.length+l1.length):(absorb (startC l0 l1) l0 l1).2.1.length+(absorb (startC l0 l1) l0 l1).2.2.length<l0.length+l1.length:=by
 cases h0:meetsE (startC l0 l1).t l0 with
 | true =>
  have hl:=meets_len h0
  rw [absorb_0 h0]
  have:=absorb_le (take0 (startC l0 l1) (hdE l0)) (l0.drop 1) l1
  rw [List.length_drop] at this
  omega
 | false =>
  cases h1:meetsE (startC l0 l1).t l1 with
  | true =>
   have hl:=meets_len h1
   rw [absorb_1 h0 h1]
   have:=absorb_le (take1 (startC l0 l1) (hdE l1)) l0 (l1.drop 1)
   rw [List.length_drop] at this
   omega
  | false =>
   exfalso
   cases hs:side1 l0 l1 with
   | true =>
    have e:(startC l0 l1).t=(hdE l1).f0:=by simp only [startC,if_pos hs]
    have hl:0<l1.length:=by
     simp only [side1,Bool.or_eq_true,Bool.and_eq_true,decide_eq_true_eq] at hs
     omega
    rw [meetsE,e] at h1
    simp [hl] at h1
   | false =>
    have e:(startC l0 l1).t=(hdE l0).f0:=by simp only [startC,hs];rfl
    have hl:0<l0.length:=by
     simp only [side1,Bool.or_eq_false_iff,decide_eq_false_iff_not] at hs
     omega
    rw [meetsE,e] at h0
    simp [hl] at h0
def clusters (l0 l1:List Ed):List Cl :=
 if h:l0.length+l1.length=0 then [] else (absorb (startC l0 l1) l0 l1).1 :: clusters (absorb (startC l0 l1) l0 l1).2.1 (absorb (startC l0 l1) l0 l1).2.2
termination_by l0.length+l1.length
decreasing_by exact start_lt l0 l1 (by omega)
theorem clusters_nil {l0 l1:List Ed} (h:l0.length+l1.length=0):clusters l0 l1=[]:=by rw [clusters,dif_pos h]
theorem clusters_cons {l0 l1:List Ed} (h:0<l0.length+l1.length):clusters l0 l1=(absorb (startC l0 l1) l0 l1).1 :: clusters (absorb (startC l0 l1) l0 l1).2.1 (absorb (startC l0 l1) l0 l1).2.2:=by rw [clusters,dif_neg (by omega)]
def addR (r:S32) (m m0 m1:Int):S32:=⟨0,⟨r.f1.f0+r.f1.f1,m⟩,⟨r.f2.f0+r.f2.f1,m+m0⟩,⟨r.f3.f0+r.f3.f1,m+m1⟩⟩
def cutP (l:List ByteArray) (s:S30):List ByteArray:=(l.drop s.f0.toNat).take s.f1.toNat
def kindP (c:Cl) (p q:List ByteArray):Int:=if c.h1=false then 1 else if c.h0=false then 2 else if p=q then 3 else 4
def kinded (r:S32) (k:Int):S32:=⟨k,r.f1,r.f2,r.f3⟩
structure Rs where
 last:S32
 out:List S32
 at_:Int
def gapR (s:Rs) (c:Cl):Rs:=if s.at_<c.f then ⟨addR s.last (c.f - s.at_) 0 0,s.out++[addR s.last (c.f - s.at_) 0 0],s.at_⟩ else s
def stepR (a b:List ByteArray) (s:Rs) (c:Cl):Rs :=
 let s1:=gapR s c
 let r:=addR s1.last (c.t - c.f) c.m0 c.m1
 ⟨r,s1.out++[kinded r (kindP c (cutP a r.f2) (cutP b r.f3))],c.t⟩
def endR (n:Nat) (s:Rs):List S32:=if s.at_<n then s.out++[addR s.last (n - s.at_) 0 0] else s.out
def regionsR (a b:List ByteArray) (cs:List Cl):Rs:=cs.foldl (stepR a b) ⟨z32,[],0⟩
def regionsP (o a b:List ByteArray):List S32:=endR o.length (regionsR a b (clusters (between o a) (between o b)))
end Go.Proofs.Ytnmphfelebkaiaa.Pr
-- shrunk
/-
The document's marks: to which cluster each edit belongs. What they say, of a set of edits that meet no others and hang together. Plain Lean.
-/
namespace Go.Proofs.Ytnmphfelebkaiaa.Pr
open Go.RowKit Go.Proofs.YtnmphfelebkaiaaW.PrintWords Go.Proofs.YtnmphfelebkaiaaW.PrintLast Go.Proofs.YtnmphfelebkaiaaW.PrintMore
def edA (l:List Ed) (i:Nat):Ed:=l.getD i z52
def va (m:List Int) (i:Nat):Int:=m.getD i 0
def meetP (e f:Ed):Bool:=decide (e.f0≤f.f0+f.f1) && decide (f.f0≤e.f0+e.f1)
theorem meetP_comm (e f:Ed):meetP e f=meetP f e:=by rw [meetP,meetP,Bool.and_comm]
def stepM (l:List Ed) (i k:Nat) (m:List Int):List Int:=if meetP (edA l i) (edA l k)=true then m.set i (mn (va m i) (va m k)) else m
def rowM (l:List Ed) (i:Nat):Nat→List Int→List Int
 | 0,m=>m
 | d+1,m=>rowM l i d (stepM l i (l.length - (d+1)) m)
def turnM (l:List Ed):Nat→List Int→List Int
 | 0,m=>m
 | d+1,m=>turnM l d (rowM l (l.length - (d+1)) l.length m)
def turnsM (l:List Ed):Nat→List Int→List Int
 | 0,m=>m
 | d+1,m=>turnsM l d (turnM l l.length m)
def idM (n:Nat):List Int:=(List.range n).map (fun (i:Nat)=>(i:Int))
def marksM (l:List Ed):List Int:=turnsM l l.length (idM l.length)
theorem mn_le (a b:Int):mn a b≤a∧mn a b≤b∧(mn a b=a∨mn a b=b):=by
 unfold mn
 split<;>omega
theorem va_set (m:List Int) (i j:Nat) (x:Int) (hi:i<m.length):va (m.set i x) j=if i=j then x else va m j:=by
 unfold va
 rw [List.getD_eq_getElem?_getD,List.getD_eq_getElem?_getD,List.getElem?_set]
 by_cases h:i=j
 ·subst h;simp [hi]
 simp [h]
structure Dn (l:List Ed) (C:Nat→Bool) (m m':List Int):Prop where
 len:m'.length=m.length
 le:∀ i,va m' i≤va m i
structure Ok (l:List Ed) (C:Nat→Bool) (m:List Int):Prop where
 len:m.length=l.length
 at_:∀ i,i<l.length→∃ j:Nat,va m i=(j:Int)∧j≤i∧C j=C i
def Closed (l:List Ed) (C:Nat→Bool):Prop:=∀ i k,i<l.length→k<l.length→meetP (edA l i) (edA l k)=true→C i=C k
theorem stepM_ok {l:List Ed} {C:Nat→Bool} {m:List Int} (hc:Closed l C) (h:Ok l C m) {i k:Nat} (hi:i<l.length) (hk:k<l.length):Ok l C (stepM l i k m)∧Dn l C m (stepM l i k m)∧(meetP (edA l i) (edA l k)=true→va (stepM l i k m) i≤va m k):=by
 unfold stepM
 by_cases hm:meetP (edA l i) (edA l k)=true
 rotate_left
 ·rw [if_neg hm]
  exact ⟨h,⟨rfl,fun _=>Int.le_refl _⟩,fun h=>absurd h hm⟩
 rw [if_pos hm]
 have hl:i<m.length:=by rw [h.len];exact hi
 obtain ⟨k1,k2,k3⟩:=mn_le (va m i) (va m k)
 refine ⟨⟨by rw [List.length_set,h.len],fun j hj=>?_⟩,⟨by rw [List.length_set],fun j=>?_⟩,fun _=>?_⟩
 ·rw [va_set _ _ _ _ hl]
  by_cases hij:i=j
  rotate_left
  ·rw [if_neg hij]
   exact h.at_ j hj
  subst hij
  rw [if_pos rfl]
  obtain ⟨x,x1,x2,x3⟩:=h.at_ i hi
  obtain ⟨y,y1,y2,y3⟩:=h.at_ k hk
  rcases k3 with e|e
  ·exact ⟨x,by rw [e,x1],x2,x3⟩
  refine ⟨y,by rw [e,y1],by omega,by rw [y3,hc i k hi hk hm]⟩
 ·rw [va_set _ _ _ _ hl]
  split
  ·rename_i e;subst e;exact k1
  exact Int.le_refl _
 rw [va_set _ _ _ _ hl,if_pos rfl];exact k2
theorem rowM_ok {l:List Ed} {C:Nat→Bool} (hc:Closed l C) {i:Nat} (hi:i<l.length):∀ d m,d≤l.length→Ok l C m→Ok l C (rowM l i d m)∧Dn l C m (rowM l i d m)∧∀ k,l.length - d≤k→k<l.length→meetP (edA l i) (edA l k)=true→va (rowM l i d m) i≤va m k
 | 0,m,_,h=>⟨h,⟨rfl,fun _=>Int.le_refl _⟩,fun k h1 h2=>by omega⟩
 | d+1,m,hd,h=>by
  obtain ⟨s1,s2,s3⟩:=stepM_ok hc h hi (show l.length - (d+1)<l.length by omega)
  obtain ⟨r1,r2,r3⟩:=rowM_ok hc hi d _ (by omega) s1
  refine ⟨r1,⟨r2.len.trans s2.len,fun j=>Int.le_trans (r2.le j) (s2.le j)⟩,fun k h1 h2 hm=>?_⟩
  by_cases he:k=l.length - (d+1)
  ·subst he
   exact Int.le_trans (r2.le i) (s3 hm)
  ·exact Int.le_trans (r3 k (by omega) h2 hm) (s2.le k)
theorem turnM_ok {l:List Ed} {C:Nat→Bool} (hc:Closed l C):∀ d m,d≤l.length→Ok l C m→Ok l C (turnM l d m)∧Dn l C m (turnM l d m)∧∀ i k,l.length - d≤i→i<l.length→k<l.length→meetP (edA l i) (edA l k)=true→va (turnM l d m) i≤va m k
 | 0,m,_,h=>⟨h,⟨rfl,fun _=>Int.le_refl _⟩,fun i k h1 h2=>by omega⟩
 | d+1,m,hd,h=>by
  obtain ⟨s1,s2,s3⟩:=rowM_ok hc (i:=l.length - (d+1)) (by omega) l.length m (Nat.le_refl _) h
  obtain ⟨r1,r2,r3⟩:=turnM_ok hc d _ (by omega) s1
  refine ⟨r1,⟨r2.len.trans s2.len,fun j=>Int.le_trans (r2.le j) (s2.le j)⟩,fun i k h1 h2 h3 hm=>?_⟩
  by_cases he:i=l.length - (d+1)
  ·subst he
   exact Int.le_trans (r2.le _) (s3 k (by omega) h3 hm)
  ·exact Int.le_trans (r3 i k (by omega) h2 h3 hm) (s2.le k)
def cntM (p:Nat→Bool):Nat→Nat
 | 0=>0
 | n+1=>cntM p n+(if p n=true then 1 else 0)
theorem cntM_le (p:Nat→Bool):∀ n,cntM p n≤n
 | 0=>Nat.le_refl _
 | n+1=>by have:=cntM_le p n;simp only [cntM];split<;>omega
theorem cntM_mono {p q:Nat→Bool} (h:∀ i,p i=true→q i=true):∀ n,cntM p n≤cntM q n
 | 0=>Nat.le_refl _
 | n+1=>by
  have:=cntM_mono h n
  simp only [cntM]
  by_cases hp:p n=true
  ·rw [if_pos hp,if_pos (h n hp)];omega
  ·rw [if_neg hp];omega
theorem cntM_lt {p q:Nat→Bool} (h:∀ i,p i=true→q i=true) {j:Nat} (h1:p j=false) (h2:q j=true):∀ n,j<n→cntM p n<cntM q n
 | 0,hj=>by omega
 | n+1,hj=>by
  have hm:=cntM_mono h n
  simp only [cntM]
  by_cases he:j=n
  ·subst he
   rw [h1,h2];simp;omega
  ·have:=cntM_lt h h1 h2 n (by omega)
   by_cases hp:p n=true
   ·rw [if_pos hp,if_pos (h n hp)];omega
   ·rw [if_neg hp];omega
def Hang (l:List Ed) (C:Nat→Bool):Prop:=∀ S:Nat→Bool,∀ i k,i<l.length→k<l.length→C i=true→C k=true→S i=true→S k=false →
 ∃ i k,i<l.length∧k<l.length∧C i=true∧C k=true∧S i=true∧S k=false∧meetP (edA l k) (edA l i)=true
theorem turnsM_ok {l:List Ed} {C:Nat→Bool} (hc:Closed l C):∀ d m,Ok l C m→Ok l C (turnsM l d m)
 | 0,m,h=>h
 | d+1,m,h=>turnsM_ok hc d _ (turnM_ok hc l.length m (Nat.le_refl _) h).1
theorem turn_keep {l:List Ed} {C:Nat→Bool} (hc:Closed l C) {r:Nat} (hmin:∀ i,i<l.length→C i=true→r≤i) {m:List Int} (h:Ok l C m) {j:Nat} (hj:j<l.length) (hcj:C j=true):(r:Int)≤va (turnM l l.length m) j∧(va m j=(r:Int)→va (turnM l l.length m) j=(r:Int)):=by
 obtain ⟨t1,t2,t3⟩:=turnM_ok hc l.length m (Nat.le_refl _) h
 obtain ⟨x,x1,x2,x3⟩:=t1.at_ j hj
 have h1:=hmin x (by omega) (by rw [x3];exact hcj)
 have h2:=t2.le j
 exact ⟨by omega,fun h=>by omega⟩
theorem turnsM_keep {l:List Ed} {C:Nat→Bool} (hc:Closed l C) {r:Nat} (hmin:∀ i,i<l.length→C i=true→r≤i):∀ d m,Ok l C m→(∀ i,i<l.length→C i=true→va m i=(r:Int))→∀ i,i<l.length→C i=true→va (turnsM l d m) i=(r:Int)
 | 0,m,h,hv=>hv
 | d+1,m,h,hv=>turnsM_keep hc hmin d _ (turnM_ok hc l.length m (Nat.le_refl _) h).1 fun j hj hcj=>(turn_keep hc hmin h hj hcj).2 (hv j hj hcj)
theorem turnsM_all {l:List Ed} {C:Nat→Bool} (hc:Closed l C) (hh:Hang l C) {r:Nat} (hr:r<l.length) (hC:C r=true) (hmin:∀ i,i<l.length→C i=true→r≤i):∀ d m,Ok l C m→va m r=(r:Int)→l.length≤d+cntM (fun i=>decide (i<l.length) && C i && decide (va m i=(r:Int))) l.length→∀ i,i<l.length→C i=true→va (turnsM l d m) i=(r:Int):=by
 intro d
 induction d with
 | zero =>
  intro m h hv hn i hi hci
  by_cases he:va m i=(r:Int)
  ·exact he
  exfalso
  have h1:=cntM_lt (p:=fun i=>decide (i<l.length) && C i && decide (va m i=(r:Int))) (q:=fun _=>true) (fun _ _=>rfl) (j:=i) (by simp [he]) rfl l.length hi
  have h2:=cntM_le (fun _=>true) l.length
  omega
 | succ d ih =>
  intro m h hv hn
  by_cases hall:∀ j,j<l.length→C j=true→va m j=(r:Int)
  ·exact turnsM_keep hc hmin (d+1) m h hall
  obtain ⟨j,hj⟩:=Classical.not_forall.1 hall
  obtain ⟨hj1,hj2⟩:=Classical.not_imp.1 hj
  obtain ⟨hj2,hj3⟩:=Classical.not_imp.1 hj2
  obtain ⟨i,k,i1,k1,i2,k2,i3,k3,hm⟩:=hh (fun x=>decide (va m x=(r:Int))) r j hr hj1 hC hj2 (by simp [hv]) (by simp [hj3])
  obtain ⟨t1,t2,t3⟩:=turnM_ok hc l.length m (Nat.le_refl _) h
  have hk:=t3 k i (by omega) k1 i1 hm
  have hk2:=(turn_keep hc hmin h k1 k2).1
  have i4:va m i=(r:Int):=by simpa using i3
  have k4:va m k≠(r:Int):=by simpa using k3
  have hlt:=cntM_lt (p:=fun i=>decide (i<l.length) && C i && decide (va m i=(r:Int))) (q:=fun i=>decide (i<l.length) && C i && decide (va (turnM l l.length m) i=(r:Int))) (fun x hx=>by
   simp only [Bool.and_eq_true,decide_eq_true_eq] at hx ⊢
   exact ⟨hx.1,(turn_keep hc hmin h hx.1.1 hx.1.2).2 hx.2⟩) (j:=k) (by simp [k4]) (by simp [k1,k2];omega) l.length k1
  exact ih _ t1 ((turn_keep hc hmin h hr hC).2 hv) (by omega)
theorem leastM (C:Nat→Bool):∀ n,(∃ i,i<n∧C i=true)→∃ r,r<n∧C r=true∧∀ i,i<n→C i=true→r≤i
 | 0,h=>by obtain ⟨i,hi,_⟩:=h;omega
 | n+1,h=>by
  by_cases h2:∃ i,i<n∧C i=true
  ·obtain ⟨r,r1,r2,r3⟩:=leastM C n h2
   exact ⟨r,by omega,r2,fun i hi hc=>by
    by_cases e:i=n
    ·omega
    ·exact r3 i (by omega) hc⟩
  ·obtain ⟨i,hi,hc⟩:=h
   exact ⟨i,hi,hc,fun k hk hck=>by
    by_cases e:k<n
    ·exact absurd ⟨k,e,hck⟩ h2
    ·omega⟩
theorem va_id {n i:Nat} (h:i<n):va (idM n) i=(i:Int):=by
 rw [va,idM,List.getD_eq_getElem?_getD,List.getElem?_eq_getElem (by simpa using h)]
 simp
theorem marks_set {l:List Ed} {C:Nat→Bool} (hc:Closed l C) (hh:Hang l C) {i k:Nat} (hi:i<l.length) (hk:k<l.length) (hC:C i=true):(va (marksM l) k=va (marksM l) i ↔ C k=true)∧(marksM l).length=l.length:=by
 have h0:Ok l C (idM l.length):=⟨by rw [idM,List.length_map,List.length_range],fun j hj=>⟨j,va_id hj,Nat.le_refl _,rfl⟩⟩
 have h1:Ok l C (marksM l):=turnsM_ok hc _ _ h0
 obtain ⟨r,r1,r2,r3⟩:=leastM C l.length ⟨i,hi,hC⟩
 have hall:=turnsM_all hc hh r1 r2 r3 l.length _ h0 (va_id r1) (by omega)
 refine ⟨⟨fun h=>?_,fun h=>?_⟩,h1.len⟩
 rotate_left
 ·rw [marksM,hall i hi hC,hall k hk h]
 obtain ⟨x,x1,x2,x3⟩:=h1.at_ i hi
 obtain ⟨y,y1,y2,y3⟩:=h1.at_ k hk
 have:x=y:=by omega
 subst this
 rw [← y3,x3];exact hC
end Go.Proofs.Ytnmphfelebkaiaa.Pr
-- shrunk
-- written by a program of this session's (a turned copy of the kit's printer); Lean checks it
namespace Go.Proofs.Ytnmphfelebkaiaa.Pr
open Go.RowKit Go.Proofs.YtnmphfelebkaiaaW.PrintWords Go.Proofs.YtnmphfelebkaiaaW.PrintLast Go.Proofs.YtnmphfelebkaiaaW.PrintMore
attribute [local go_sem] max2_int min2_int max_two min_two max_three min_three max_four min_four   -- for this text's walks alone

theorem eqA30 (d:Nat) (w:World) (x0 y0:Int) (x1 y1:Int) :
  (Op.equalIn (d+2) 30 (.agg #[.int .i64 x0,.int .i64 x1]) (.agg #[.int .i64 y0,.int .i64 y1])).run Try.prog w=.ok (x0 == y0 && (x1 == y1)) w:=by
 refine eqA_of Try.underlying30 (by kernel_rfl) ?_
 refine eqf_cons (by rfl) (by go_simp;rfl) (by go_simp;rfl) (by go_simp) ?_
 exact eqf_last (by rfl) (by go_simp;rfl) (by go_simp;rfl) (by go_simp)
theorem eqA32 (d:Nat) (w:World) (x0 y0:Int) (x1 y1:Int) (x2 y2:Int) (x3 y3:Int) (x4 y4:Int) (x5 y5:Int) (x6 y6:Int) :
  (Op.equalIn (d+3) 32 (.agg #[.int .i64 x0,.int .i64 x1,.int .i64 x2,.int .i64 x3,.int .i64 x4,.int .i64 x5,.int .i64 x6]) (.agg #[.int .i64 y0,.int .i64 y1,.int .i64 y2,.int .i64 y3,.int .i64 y4,.int .i64 y5,.int .i64 y6])).run Try.prog w=.ok (x0 == y0 && ((x1 == y1 && (x2 == y2)) && ((x3 == y3 && (x4 == y4)) && ((x5 == y5 && (x6 == y6)))))) w:=by
 refine eqA_of Try.underlying32 (by kernel_rfl) ?_
 refine eqf_cons (by rfl) (by go_simp;rfl) (by go_simp;rfl) (by go_simp) ?_
 refine eqf_cons (by rfl) (by go_simp) (by go_simp) (eqA30 (d+0) w _ _ _ _) ?_
 refine eqf_cons (by rfl) (by go_simp) (by go_simp) (eqA30 (d+0) w _ _ _ _) ?_
 exact eqf_last (by rfl) (by go_simp) (by go_simp) (eqA30 (d+0) w _ _ _ _)
end Go.Proofs.Ytnmphfelebkaiaa.Pr
-- shrunk
-- written by a program of this session's (a turned copy of the kit's printer); Lean checks it
namespace Go.Proofs.Ytnmphfelebkaiaa.Pr
open Go.RowKit Go.Proofs.YtnmphfelebkaiaaW.PrintWords Go.Proofs.YtnmphfelebkaiaaW.PrintLast Go.Proofs.YtnmphfelebkaiaaW.PrintMore
attribute [local go_sem] max2_int min2_int max_two min_two max_three min_three max_four min_four   -- for this text's walks alone

attribute [local go_sem high] eqA32


def r01_Texts.l0:Nat→List ByteArray→List ByteArray→Int→Option (Bool)
 | 0,_,_,_=>none
 | k+1,x0,x1,x5=>if x5<(x0.length:Int) then (if 0≤x5 then (if x5<(x1.length:Int) then (if (rdOf ByteArray.empty x0 x5).toList=(rdOf ByteArray.empty x1 x5).toList then (r01_Texts.l0 k x0 x1 (wrap64 (x5+1))) else (some false)) else (none)) else (none)) else (some true)
def r01_Texts.f (k:Nat) (l0:List ByteArray) (l1:List ByteArray):Option (Bool):=if (l0.length:Int)=(l1.length:Int) then (r01_Texts.l0 k l0 l1 0) else (some false)
set_option maxHeartbeats 8000000 in
set_option maxRecDepth 100000 in
theorem r01_Texts.calls (k:Nat) (A0:Option Addr) (c0:Nat) (l0:List ByteArray) (A1:Option Addr) (c1:Nat) (l1:List ByteArray) (r:Bool) (w:World) (hr0:Kd.C Kd.string w A0 l0.length l0) (hc0:l0.length≤c0) (hr1:Kd.C Kd.string w A1 l1.length l1) (hc1:l1.length≤c1) (h:r01_Texts.f k l0 l1=some r) :
  Calls Try.prog 13 #[.slice A0 l0.length c0,.slice A1 l1.length c1] w fun e w'=>e=.returned (.bool r)∧Drawn0 w w':=by
 have HR0:=Aside0.mk hr0
 have HC0:=Aside0.mk hc0
 clear hr0 hc0
 have HR1:=Aside0.mk hr1
 have HC1:=Aside0.mk hc1
 clear hr1 hc1
 have H:(if (l0.length:Int)=(l1.length:Int) then (r01_Texts.l0 k l0 l1 0) else (some false))=some r:=h
 clear h
 by_cases c3:(l0.length:Int)=(l1.length:Int)
 rotate_left
 ·rw [if_neg c3] at H
  have c3b0:((l0.length:Int) == (l1.length:Int))=false:=beq_eq_false_iff_ne.mpr c3
  have c3b1:((l0.length:Int) != (l1.length:Int))=true:=bne_iff_ne.mpr c3
  have c3b2:(l0.length == l1.length)=false:=by first|simpa using c3|(simp at c3 ⊢;omega)
  obtain rfl:=Option.some.inj H
  go_enter Try.func13,Try.ntmps13
  go_wp2
  repeat (go_quiet (fail);try go_wp2)
  go_ret
  exact ⟨by first|rfl|(simp;done)|(simp [*];done),by repeat (first|exact Drawn0.refl _|apply Drawn0.step)⟩

 rw [if_pos c3] at H
 have c3b0:((l0.length:Int) == (l1.length:Int))=true:=beq_iff_eq.mpr c3
 have c3b1:((l0.length:Int) != (l1.length:Int))=false:=bne_eq_false_iff_eq.mpr c3
 have c3b2:(l0.length == l1.length)=true:=by first|simpa using c3|(simp at c3 ⊢;omega)
 clear c3
 have H':=Aside0.mk H
 clear H
 go_enter Try.func13,Try.ntmps13
 go_wp2
 repeat (go_quiet (fail);try go_wp2)
 go_loopg [5] k (fun kq v5 w'=>∃ (x5_1:Int),v5=.int .i64 x5_1∧Aside0 (r01_Texts.l0 kq l0 l1 x5_1=some r)∧Aside0 (kq≤k)∧Drawn0 w w')
 case atStart=>exact ⟨(0),(by first|rfl|(simp;done)|(simp [*];done)),H',⟨Nat.le_refl _⟩,by repeat (first|exact Drawn0.refl _|apply Drawn0.step)⟩
 case round =>
  clear H'
  try clear c1
  try clear p2
  try clear c3
  try clear c3b0
  try clear c3b1
  try clear c3b2
  obtain ⟨x5_1,rfl,HA,HK1,⟨m1,rfl⟩⟩:=hrel
  cases gk with
  | zero=>exact absurd HA.out (by simp [r01_Texts.l0])
  | succ k1 =>
   have H:=HA.out
   clear HA
   simp only [r01_Texts.l0] at H
   by_cases c4:x5_1<(l0.length:Int)
   rotate_left
   ·rw [if_neg c4] at H
    have c4b0:decide (x5_1<(l0.length:Int))=false:=decide_eq_false c4
    clear c4
    obtain rfl:=Option.some.inj H
    go_wp2
    repeat (go_quiet (fail);try go_wp2)
    go_ret
    exact ⟨by first|rfl|(simp;done)|(simp [*];done),by repeat (first|exact Drawn0.refl _|apply Drawn0.step)⟩
   rw [if_pos c4] at H
   have c4b0:decide (x5_1<(l0.length:Int))=true:=decide_eq_true c4
   clear c4
   by_cases c5:0≤x5_1
   rotate_left
   ·rw [if_neg c5] at H
    exact absurd H (by simp)
   rw [if_pos c5] at H
   have c5b0:decide (0≤x5_1)=true:=decide_eq_true c5
   clear c5
   by_cases c6:x5_1<(l1.length:Int)
   rotate_left
   ·rw [if_neg c6] at H
    exact absurd H (by simp)
   rw [if_pos c6] at H
   have c6b0:decide (x5_1<(l1.length:Int))=true:=decide_eq_true c6
   clear c6
   by_cases c7:(rdOf ByteArray.empty l0 x5_1).toList=(rdOf ByteArray.empty l1 x5_1).toList
   rotate_left
   ·rw [if_neg c7] at H
    have c7b0:((rdOf ByteArray.empty l0 x5_1).toList == (rdOf ByteArray.empty l1 x5_1).toList)=false:=beq_eq_false_iff_ne.mpr c7
    have c7b1:((rdOf ByteArray.empty l0 x5_1).toList != (rdOf ByteArray.empty l1 x5_1).toList)=true:=bne_iff_ne.mpr c7
    obtain rfl:=Option.some.inj H
    have p116:0≤(x5_1:Int):=of_decide_eq_true (by first|(with_reducible assumption)|assumption)
    have q116:x5_1<(l0.length:Int):=of_decide_eq_true (by first|(with_reducible assumption)|assumption)
    obtain ⟨ad116,e116,hx116_0⟩:=Kd.at_string HR0.out x5_1 p116 q116
    cases e116
    replace p116:=eq_true p116
    replace q116:=eq_true q116
    have p117:0≤(x5_1:Int):=of_decide_eq_true (by first|(with_reducible assumption)|assumption)
    have q117:x5_1<(l1.length:Int):=of_decide_eq_true (by first|(with_reducible assumption)|assumption)
    obtain ⟨ad117,e117,hx117_0⟩:=Kd.at_string HR1.out x5_1 p117 q117
    cases e117
    replace p117:=eq_true p117
    replace q117:=eq_true q117
    go_wp2
    repeat (go_quiet (fail);try go_wp2)
    go_ret
    exact ⟨by first|rfl|(simp;done)|(simp [*];done),by repeat (first|exact Drawn0.refl _|apply Drawn0.step)⟩
   rw [if_pos c7] at H
   have c7b0:((rdOf ByteArray.empty l0 x5_1).toList == (rdOf ByteArray.empty l1 x5_1).toList)=true:=beq_iff_eq.mpr c7
   have c7b1:((rdOf ByteArray.empty l0 x5_1).toList != (rdOf ByteArray.empty l1 x5_1).toList)=false:=bne_eq_false_iff_eq.mpr c7
   clear c7
   have H':=Aside0.mk H
   clear H
   have p116:0≤(x5_1:Int):=of_decide_eq_true (by first|(with_reducible assumption)|assumption)
   have q116:x5_1<(l0.length:Int):=of_decide_eq_true (by first|(with_reducible assumption)|assumption)
   obtain ⟨ad116,e116,hx116_0⟩:=Kd.at_string HR0.out x5_1 p116 q116
   cases e116
   replace p116:=eq_true p116
   replace q116:=eq_true q116
   have p117:0≤(x5_1:Int):=of_decide_eq_true (by first|(with_reducible assumption)|assumption)
   have q117:x5_1<(l1.length:Int):=of_decide_eq_true (by first|(with_reducible assumption)|assumption)
   obtain ⟨ad117,e117,hx117_0⟩:=Kd.at_string HR1.out x5_1 p117 q117
   cases e117
   replace p117:=eq_true p117
   replace q117:=eq_true q117
   go_wp2
   repeat (go_quiet (fail);try go_wp2)
   go_roundg k1
   case measure=>have:=HK1.out;omega
   case rel=>exact ⟨(wrap64 (x5_1+1)),(by first|rfl|(simp;done)|(simp [*];done)),H',⟨by have:=HK1.out;omega⟩,by repeat (first|exact Drawn0.refl _|apply Drawn0.step)⟩
end Go.Proofs.Ytnmphfelebkaiaa.Pr
-- shrunk
/-
Equality of two lists of texts, as the printed function has it, in plain Lean.
-/
namespace Go.Proofs.Ytnmphfelebkaiaa.Pr
open Go.RowKit Go.Proofs.YtnmphfelebkaiaaW.PrintWords Go.Proofs.YtnmphfelebkaiaaW.PrintLast Go.Proofs.YtnmphfelebkaiaaW.PrintMore
theorem w_succ {i n:Nat} (h:i<n) (hn:n≤4611686018427387904):wrap64 ((i:Int)+1)=((i+1:Nat):Int):=by unfold wrap64;omega
theorem w_in {x:Int} (h0:-9223372036854775808≤x) (h1:x≤9223372036854775807):wrap64 x=x:=by unfold wrap64;omega
theorem rdS_at {xs:List ByteArray} {i:Nat} (h:i<xs.length):rdOf ByteArray.empty xs (i:Int)=xs[i]:=by
 rw [rdOf,Int.toNat_natCast,List.getD_eq_getElem?_getD,List.getElem?_eq_getElem h,Option.getD_some]
theorem toList_iff (x y:ByteArray):x.toList=y.toList ↔ x=y:=by
 have:=Lib.bytes_beq_iff x y
 rwa [beq_iff_eq] at this
theorem Ev.none_of {α:Type} {g:Nat→Option α} {r:α} (h:∀ k,g k=some r):Ev g r:=⟨0,fun k _=>h k⟩
theorem drop_eq_iff {α:Type} {a b:List α} {i:Nat} (h0:i<a.length) (h1:i<b.length):a.drop i=b.drop i ↔ a[i]=b[i]∧a.drop (i+1)=b.drop (i+1):=by
 rw [List.drop_eq_getElem_cons h0,List.drop_eq_getElem_cons h1,List.cons.injEq]
theorem Texts_l0 (a b:List ByteArray) (hl:a.length=b.length) (hn:a.length≤4611686018427387904):∀ d i,a.length - i=d→i≤a.length→Ev (fun k=>r01_Texts.l0 k a b (i:Int)) (decide (a.drop i=b.drop i)):=by
 intro d
 induction d with
 | zero =>
  intro i hd hi
  refine Ev.step (fun _=>r01_Texts.l0.eq_2 ..) ?_
  simp only [if_neg (show ¬ (i:Int)<(a.length:Int) by omega)]
  rw [List.drop_of_length_le (by omega),List.drop_of_length_le (by omega)]
  exact Ev.now _
 | succ d ih =>
  intro i hd hi
  refine Ev.step (fun _=>r01_Texts.l0.eq_2 ..) ?_
  have h0:i<a.length:=by omega
  have h1:i<b.length:=by omega
  simp only [if_pos (show (i:Int)<(a.length:Int) by omega),if_pos (show 0≤(i:Int) by omega),if_pos (show (i:Int)<(b.length:Int) by omega),rdS_at h0,rdS_at h1,toList_iff,w_succ h0 hn]
  by_cases he:a[i]=b[i]
  ·simp only [if_pos he]
   have h:=ih (i+1) (by omega) (by omega)
   have e:decide (a.drop (i+1)=b.drop (i+1))=decide (a.drop i=b.drop i):=decide_eq_decide.2 (by rw [drop_eq_iff h0 h1];simp [he])
   rw [e] at h
   exact h
  simp only [if_neg he]
  have e:decide (a.drop i=b.drop i)=false:=decide_eq_false (by rw [drop_eq_iff h0 h1];simp [he])
  rw [e]
  exact Ev.now _
theorem Texts_ev (a b:List ByteArray) (hn:a.length≤4611686018427387904):Ev (fun k=>r01_Texts.f k a b) (decide (a=b)):=by
 unfold r01_Texts.f
 by_cases hl:a.length=b.length
 ·simp only [if_pos (show (a.length:Int)=(b.length:Int) by omega)]
  have h:=Texts_l0 a b hl hn _ 0 rfl (by omega)
  simpa using h
 simp only [if_neg (show ¬ (a.length:Int)=(b.length:Int) by omega)]
 rw [decide_eq_false (fun h=>hl (by rw [h]))]
 exact Ev.now _
end Go.Proofs.Ytnmphfelebkaiaa.Pr
-- shrunk
/-
Steps of a walk that are told often, told once: what is left to a proof's own context is a default proof.
-/
namespace Go.Proofs.Ytnmphfelebkaiaa.Pr
open Go.RowKit Go.Proofs.YtnmphfelebkaiaaW.PrintWords Go.Proofs.YtnmphfelebkaiaaW.PrintLast Go.Proofs.YtnmphfelebkaiaaW.PrintMore
section
variable {P:Program} {ops:Array Oper} {Q:Exit→Act→World→Prop} {md:Region.Mode} {S:World→Prop} {ds:List Nat}
end
theorem asm {p:Prop} (h:p:=by first|(with_reducible assumption)|assumption):p:=h
theorem rx {α:Type} {a b:α} (h:a=b:=by first|rfl|(simp;done)|(simp [*];done)):a=b:=h
theorem bel {B:Nat} {w W:World} (h:Below B w W:=by repeat (first|(with_reducible first|exact HB.out|apply below_alloc|apply pw_below_drewN|apply below_drew1|refine below_set ?_ (Aside0.out (by assumption)))|exact HB.out)):Below B w W:=h
theorem szl {n m:Nat} (h:n≤m:=by rw [hg];exact below_size bel):n≤m:=h
end Go.Proofs.Ytnmphfelebkaiaa.Pr
-- shrunk
-- written by a program of this session's (a turned copy of the kit's printer); Lean checks it
namespace Go.Proofs.Ytnmphfelebkaiaa.Pr
open Go.RowKit Go.Proofs.YtnmphfelebkaiaaW.PrintWords Go.Proofs.YtnmphfelebkaiaaW.PrintLast Go.Proofs.YtnmphfelebkaiaaW.PrintMore
attribute [local go_sem] max2_int min2_int max_two min_two max_three min_three max_four min_four   -- for this text's walks alone

def r08_meet.f (a0_0:Int) (a0_1:Int) (l0_2:List ByteArray) (a1_0:Int) (a1_1:Int) (l1_2:List ByteArray):Option (Bool):=if a0_0≤(wrap64 (a1_0+a1_1)) then (some (decide (a1_0≤(wrap64 (a0_0+a0_1))))) else (some false)
set_option maxHeartbeats 8000000 in
set_option maxRecDepth 100000 in
theorem r08_meet.calls (a0_0:Int) (a0_1:Int) (A0_2:Option Addr) (c0_2:Nat) (l0_2:List ByteArray) (a1_0:Int) (a1_1:Int) (A1_2:Option Addr) (c1_2:Nat) (l1_2:List ByteArray) (r:Bool) (w:World) (hr0_2:Kd.C Kd.string w A0_2 l0_2.length l0_2) (hc0_2:l0_2.length≤c0_2) (hr1_2:Kd.C Kd.string w A1_2 l1_2.length l1_2) (hc1_2:l1_2.length≤c1_2) (h:r08_meet.f a0_0 a0_1 l0_2 a1_0 a1_1 l1_2=some r) :
  Calls Try.prog 35 #[.agg #[.int .i64 a0_0,.int .i64 a0_1,.slice A0_2 l0_2.length c0_2],.agg #[.int .i64 a1_0,.int .i64 a1_1,.slice A1_2 l1_2.length c1_2]] w fun e w'=>e=.returned (.bool r)∧Below w.heap.size w w':=by
 have hu52:=Try.underlying52
 have HR0_2:=Aside0.mk hr0_2
 have HC0_2:=Aside0.mk hc0_2
 clear hr0_2 hc0_2
 have HR1_2:=Aside0.mk hr1_2
 have HC1_2:=Aside0.mk hc1_2
 clear hr1_2 hc1_2
 have HB:=Aside0.mk (Below.refl w.heap.size w)
 have H:(if a0_0≤(wrap64 (a1_0+a1_1)) then (some (decide (a1_0≤(wrap64 (a0_0+a0_1))))) else (some false))=some r:=h
 clear h
 by_cases c3:a0_0≤(wrap64 (a1_0+a1_1))
 ·rw [if_pos c3] at H
  have c3b0:decide (a0_0≤(wrap64 (a1_0+a1_1)))=true:=decide_eq_true c3
  clear c3
  obtain rfl:=Option.some.inj H
  go_enter Try.func35,Try.ntmps35
  go_wp2_with (first|((with_reducible refine gate_dst (N:=2) rfl ?_);refine box_event ?hg (N:=2) ?hd (cs:=#[.int .i64 a0_0,.int .i64 a0_1,.slice A0_2 l0_2.length c0_2]) (t:=52) ?hr ?_;(case hd=>rfl);(case hg=>rfl);(case hr=>first|(go_simp;done)|(go_simp;rfl));intro gb132 hg w4 hbox hb;have n0_:=Aside0.mk (below_step bel hb);have n1_:=Aside0.mk (hbox);have n2_:=Aside0.mk ((szl:w.heap.size≤gb132));have n3_:=Aside0.mk ((szl:w.heap.size≤gb132));clear HB;have HB:=n0_;have BK132:=n1_;have GW132:=n2_;have GE132:=n3_;clear n0_ n1_ n2_ n3_;clear hb hbox hg)|((with_reducible refine gate_dst (N:=3) rfl ?_);refine box_event ?hg (N:=3) ?hd (cs:=#[.int .i64 a1_0,.int .i64 a1_1,.slice A1_2 l1_2.length c1_2]) (t:=52) ?hr ?_;(case hd=>rfl);(case hg=>rfl);(case hr=>first|(go_simp;done)|(go_simp;rfl));intro gb133 hg w5 hbox hb;have n0_:=Aside0.mk (blk_below (g:=gb132) (o:=.cells #[.int .i64 a0_0,.int .i64 a0_1,.slice A0_2 l0_2.length c0_2] 52 (0,0)) (by (with_reducible repeat (first|refine blk_drewN ?_ _|refine blk_drew ?_|refine blk_alloc ?_ _));exact BK132.out) hb);have n1_:=Aside0.mk (below_step bel hb);have n2_:=Aside0.mk (hbox);have n3_:=Aside0.mk ((szl:w.heap.size≤gb133));have n4_:=Aside0.mk ((szl:w.heap.size≤gb133));have n5_:=Aside0.mk ((by rw [hg];exact Nat.ne_of_lt (blk_lt (g:=gb132) (o:=.cells #[.int .i64 a0_0,.int .i64 a0_1,.slice A0_2 l0_2.length c0_2] 52 (0,0)) (by (with_reducible repeat (first|refine blk_drewN ?_ _|refine blk_drew ?_|refine blk_alloc ?_ _));exact BK132.out)):gb132≠gb133));have n6_:=Aside0.mk ((by rw [hg];exact Nat.ne_of_gt (blk_lt (g:=gb132) (o:=.cells #[.int .i64 a0_0,.int .i64 a0_1,.slice A0_2 l0_2.length c0_2] 52 (0,0)) (by (with_reducible repeat (first|refine blk_drewN ?_ _|refine blk_drew ?_|refine blk_alloc ?_ _));exact BK132.out)):gb133≠gb132));clear BK132;clear HB;have BK132:=n0_;have HB:=n1_;have BK133:=n2_;have GW133:=n3_;have GE133:=n4_;have NB132_133:=n5_;have NB133_132:=n6_;clear n0_ n1_ n2_ n3_ n4_ n5_ n6_;clear hb hbox hg;have hnb6:=NB132_133.out;have hnc6:=NB133_132.out;have hcz7_0:w5.cell? ⟨gb132,0,none⟩=some (.int .i64 a0_0):=(blk_cell BK132.out 0).trans rfl;have hcz7_1:w5.cell? ⟨gb132,1,none⟩=some (.int .i64 a0_1):=(blk_cell BK132.out 1).trans rfl;have hcz7_2:w5.cell? ⟨gb132,2,none⟩=some (.slice A0_2 l0_2.length c0_2):=(blk_cell BK132.out 2).trans rfl;have hfz7_0:=blk_frozen BK132.out 0;have hfz7_1:=blk_frozen BK132.out 1;have hfz7_2:=blk_frozen BK132.out 2;have hcz8_0:w5.cell? ⟨gb133,0,none⟩=some (.int .i64 a1_0):=(blk_cell BK133.out 0).trans rfl;have hcz8_1:w5.cell? ⟨gb133,1,none⟩=some (.int .i64 a1_1):=(blk_cell BK133.out 1).trans rfl;have hcz8_2:w5.cell? ⟨gb133,2,none⟩=some (.slice A1_2 l1_2.length c1_2):=(blk_cell BK133.out 2).trans rfl;have hfz8_0:=blk_frozen BK133.out 0;have hfz8_1:=blk_frozen BK133.out 1;have hfz8_2:=blk_frozen BK133.out 2))
  go_ret
  exact ⟨by first|rfl|(simp [errW_none,errW_some]<;>rfl)|(simp [*,errW_none,errW_some]<;>rfl),bel⟩
 rw [if_neg c3] at H
 have c3b0:decide (a0_0≤(wrap64 (a1_0+a1_1)))=false:=decide_eq_false c3
 clear c3
 obtain rfl:=Option.some.inj H
 go_enter Try.func35,Try.ntmps35
 go_wp2_with (first|((with_reducible refine gate_dst (N:=2) rfl ?_);refine box_event ?hg (N:=2) ?hd (cs:=#[.int .i64 a0_0,.int .i64 a0_1,.slice A0_2 l0_2.length c0_2]) (t:=52) ?hr ?_;(case hd=>rfl);(case hg=>rfl);(case hr=>first|(go_simp;done)|(go_simp;rfl));intro gb132 hg w9 hbox hb;have n0_:=Aside0.mk (below_step bel hb);have n1_:=Aside0.mk (hbox);have n2_:=Aside0.mk ((szl:w.heap.size≤gb132));have n3_:=Aside0.mk ((szl:w.heap.size≤gb132));clear HB;have HB:=n0_;have BK132:=n1_;have GW132:=n2_;have GE132:=n3_;clear n0_ n1_ n2_ n3_;clear hb hbox hg)|((with_reducible refine gate_dst (N:=3) rfl ?_);refine box_event ?hg (N:=3) ?hd (cs:=#[.int .i64 a1_0,.int .i64 a1_1,.slice A1_2 l1_2.length c1_2]) (t:=52) ?hr ?_;(case hd=>rfl);(case hg=>rfl);(case hr=>first|(go_simp;done)|(go_simp;rfl));intro gb133 hg w10 hbox hb;have n0_:=Aside0.mk (blk_below (g:=gb132) (o:=.cells #[.int .i64 a0_0,.int .i64 a0_1,.slice A0_2 l0_2.length c0_2] 52 (0,0)) (by (with_reducible repeat (first|refine blk_drewN ?_ _|refine blk_drew ?_|refine blk_alloc ?_ _));exact BK132.out) hb);have n1_:=Aside0.mk (below_step bel hb);have n2_:=Aside0.mk (hbox);have n3_:=Aside0.mk ((szl:w.heap.size≤gb133));have n4_:=Aside0.mk ((szl:w.heap.size≤gb133));have n5_:=Aside0.mk ((by rw [hg];exact Nat.ne_of_lt (blk_lt (g:=gb132) (o:=.cells #[.int .i64 a0_0,.int .i64 a0_1,.slice A0_2 l0_2.length c0_2] 52 (0,0)) (by (with_reducible repeat (first|refine blk_drewN ?_ _|refine blk_drew ?_|refine blk_alloc ?_ _));exact BK132.out)):gb132≠gb133));have n6_:=Aside0.mk ((by rw [hg];exact Nat.ne_of_gt (blk_lt (g:=gb132) (o:=.cells #[.int .i64 a0_0,.int .i64 a0_1,.slice A0_2 l0_2.length c0_2] 52 (0,0)) (by (with_reducible repeat (first|refine blk_drewN ?_ _|refine blk_drew ?_|refine blk_alloc ?_ _));exact BK132.out)):gb133≠gb132));clear BK132;clear HB;have BK132:=n0_;have HB:=n1_;have BK133:=n2_;have GW133:=n3_;have GE133:=n4_;have NB132_133:=n5_;have NB133_132:=n6_;clear n0_ n1_ n2_ n3_ n4_ n5_ n6_;clear hb hbox hg;have hnb11:=NB132_133.out;have hnc11:=NB133_132.out;have hcz12_0:w10.cell? ⟨gb132,0,none⟩=some (.int .i64 a0_0):=(blk_cell BK132.out 0).trans rfl;have hcz12_1:w10.cell? ⟨gb132,1,none⟩=some (.int .i64 a0_1):=(blk_cell BK132.out 1).trans rfl;have hcz12_2:w10.cell? ⟨gb132,2,none⟩=some (.slice A0_2 l0_2.length c0_2):=(blk_cell BK132.out 2).trans rfl;have hfz12_0:=blk_frozen BK132.out 0;have hfz12_1:=blk_frozen BK132.out 1;have hfz12_2:=blk_frozen BK132.out 2;have hcz13_0:w10.cell? ⟨gb133,0,none⟩=some (.int .i64 a1_0):=(blk_cell BK133.out 0).trans rfl;have hcz13_1:w10.cell? ⟨gb133,1,none⟩=some (.int .i64 a1_1):=(blk_cell BK133.out 1).trans rfl;have hcz13_2:w10.cell? ⟨gb133,2,none⟩=some (.slice A1_2 l1_2.length c1_2):=(blk_cell BK133.out 2).trans rfl;have hfz13_0:=blk_frozen BK133.out 0;have hfz13_1:=blk_frozen BK133.out 1;have hfz13_2:=blk_frozen BK133.out 2))
 go_ret
 exact ⟨by first|rfl|(simp [errW_none,errW_some]<;>rfl)|(simp [*,errW_none,errW_some]<;>rfl),bel⟩

end Go.Proofs.Ytnmphfelebkaiaa.Pr
-- shrunk
-- written by a program of this session's (a turned copy of the kit's printer); Lean checks it
namespace Go.Proofs.Ytnmphfelebkaiaa.Pr
open Go.RowKit Go.Proofs.YtnmphfelebkaiaaW.PrintWords Go.Proofs.YtnmphfelebkaiaaW.PrintLast Go.Proofs.YtnmphfelebkaiaaW.PrintMore
attribute [local go_sem] max2_int min2_int max_two min_two max_three min_three max_four min_four   -- for this text's walks alone

mutual
def r08_marks.l0:Nat→List (S52)→List Int→Int→Option (List Int)
 | 0,_,_,_=>none
 | k+1,x0,x3,x4=>if x4<(x0.length:Int) then (if x3.length<17592186044416 then (r08_marks.l0 k x0 (x3++[x4]) (wrap64 (x4+1))) else (none)) else (r08_marks.l1 k x0 x3 0)
def r08_marks.l1:Nat→List (S52)→List Int→Int→Option (List Int)
 | 0,_,_,_=>none
 | k+1,x0,x3,x5=>if x5<(x0.length:Int) then (r08_marks.l2 k x0 x3 x5 0) else (some x3)
def r08_marks.l2:Nat→List (S52)→List Int→Int→Int→Option (List Int)
 | 0,_,_,_,_=>none
 | k+1,x0,x3,x5,x6=>if x6<(x0.length:Int) then (r08_marks.l3 k x0 x3 x5 x6 0) else (r08_marks.l1 k x0 x3 (wrap64 (x5+1)))
def r08_marks.l3:Nat→List (S52)→List Int→Int→Int→Int→Option (List Int)
 | 0,_,_,_,_,_=>none
 | k+1,x0,x3,x5,x6,x7=>if x7<(x0.length:Int) then (if 0≤x6 then (if x6<(x0.length:Int) then (if 0≤x7 then ((r08_meet.f ((rd_T52 x0 x6).f0) ((rd_T52 x0 x6).f1) ((rd_T52 x0 x6).f2) ((rd_T52 x0 x7).f0) ((rd_T52 x0 x7).f1) ((rd_T52 x0 x7).f2)).bind fun t139=>(if t139=true then (if x6<(x3.length:Int) then (if x7<(x3.length:Int) then (r08_marks.l3 k x0 (x3.set (x6:Int).toNat (mn (rd x3 x6) (rd x3 x7))) x5 x6 (wrap64 (x7+1))) else (none)) else (none)) else (r08_marks.l3 k x0 x3 x5 x6 (wrap64 (x7+1))))) else (none)) else (none)) else (none)) else (r08_marks.l2 k x0 x3 x5 (wrap64 (x6+1)))
end
def r08_marks.f (k:Nat) (l0:List (S52)):Option (List Int):=r08_marks.l0 k l0 ([]:List Int) 0
def r08_marks.T15:Bool × List (List Nat × List Nat):=(true,[([],[]),([],[]),([0,1],[0,1]),([2],[2]),([],[]),([],[]),([4,5],[4,5]),([6],[6]),([3,7],[3,7]),([8,8,0,1,2,3,4,5,6,7,8],[8])])
def r08_marks.B15:List Nat:=[0,0,3,7,0,0,48,112,255,511]
theorem r08_marks.tab15:rtab .any (opsOf Try.f21 15)=r08_marks.T15:=by kernel_rfl
theorem r08_marks.bits15:waitsOk r08_marks.T15.2 r08_marks.B15=true:=by kernel_rfl
def r08_marks.T17:Bool × List (List Nat × List Nat):=(true,[([],[]),([],[]),([],[]),([],[]),([2,3],[2,3]),([4],[4]),([],[]),([],[]),([6,7],[6,7]),([8],[8]),([5,9],[5,9]),([0,1,0,1,2,3,4,5,6,7,8,9,10],[0,1]),([11,10,0,1,2,3,4,5,6,7,8,9,10],[10,11])])
def r08_marks.B17:List Nat:=[0,0,0,0,12,28,0,0,192,448,1020,2047,4095]
theorem r08_marks.tab17:rtab .any (opsOf Try.f21 17)=r08_marks.T17:=by kernel_rfl
theorem r08_marks.bits17:waitsOk r08_marks.T17.2 r08_marks.B17=true:=by kernel_rfl
set_option maxHeartbeats 8000000 in
set_option maxRecDepth 100000 in
theorem r08_marks.calls (k:Nat) (A0:Option Addr) (c0:Nat) (l0:List (S52)) (r:List Int) (w:World) (hr0:Kd.C k52 w A0 l0.length l0) (hc0:l0.length≤c0) (h:r08_marks.f k l0=some r) :
  Calls Try.prog 21 #[.slice A0 l0.length c0] w fun e w'=>∃ v0_:Value,e=.returned (v0_)∧Kd.R (Kd.int .i64) 3 w' w.heap.size (fun _=>True) v0_ r∧Below w.heap.size w w':=by
 have hu52:=Try.underlying52
 have HR0:=Aside0.mk hr0
 have HC0:=Aside0.mk hc0
 clear hr0 hc0
 have HB:=Aside0.mk (Below.refl w.heap.size w)
 have H:(r08_marks.l0 k l0 ([]:List Int) 0)=some r:=h
 clear h
 have H':=Aside0.mk H
 clear H
 go_enter Try.func21,Try.ntmps21
 go_wp2
 go_loopg [3,4] k (fun kq v3 v4 w'=>∃ (x3_1:List Int) (x4_1:Int),v4=.int .i64 x4_1∧Aside0 (r08_marks.l0 kq l0 x3_1 x4_1=some r)∧Aside0 (kq≤k)∧Aside0 (Kd.R (Kd.int .i64) 3 w' w.heap.size (fun _=>True) v3 x3_1)∧Aside0 (Below w.heap.size w w'))
 case atStart=>exact ⟨(([]:List Int)),(0),rx,H',⟨Nat.le_refl _⟩,⟨by first|exact Kd.R_nil _ _ _ _ _|exact Kd.N_nil _ _ _ _ _|exact Kd.V_nil _ _ _ _ _|exact Kd.Q_nil _ _ _ _ _|exact Kd.S_nil _ _ _ _ _⟩,⟨by repeat (first|(with_reducible first|exact HB.out|apply below_alloc|apply pw_below_drewN|apply below_drew1)|exact HB.out)⟩⟩
 case round =>
  clear H'
  obtain ⟨x3_1,x4_1,rfl,HA,HK1,HO_3,HB⟩:=hrel
  cases gk with
  | zero=>exact absurd HA.out (by simp [r08_marks.l0])
  | succ k1 =>
   have H:=HA.out
   clear HA
   simp only [r08_marks.l0] at H
   by_cases c2:x4_1<(l0.length:Int)
   ·rw [if_pos c2] at H
    have c2b0:decide (x4_1<(l0.length:Int))=true:=decide_eq_true c2
    clear c2
    by_cases c3:x3_1.length<17592186044416
    ·rw [if_pos c3] at H
     have LMc3:=Aside0.mk c3
     clear c3
     obtain ⟨y134,hy134⟩:∃ y_:List Int,y_=(x3_1++[x4_1]):=⟨_,rfl⟩
     replace H:(r08_marks.l0 k1 l0 y134 (wrap64 (x4_1+1)))=some r:=by first|(rw [hy134];with_reducible exact H)|(have H2_:=(Option.bind_some _ _).symm.trans H;rw [hy134];with_reducible exact H2_)|(have H2_:=(Option.bind_some _ _).symm.trans H;with_reducible exact H2_)|with_reducible exact H|(rw [hy134];exact H)|exact H
     have Ny134:=Aside0.mk hy134
     clear hy134
     have H':=Aside0.mk H
     clear H
     go_wp2_with (first|((with_reducible refine gate_builtin (b:=.append) (xs:=#[.tmp 15,.tmp 17]) rfl ?_);at_builtin;refine Kd.R_append (Kd.int .i64) (w0:=w) w.heap.size rfl (.tmp 15) (.tmp 17) 49 3 (.int .i64 0) 8 rfl Try.underlying49 info3 rfl (by decide) (by omega) u3 x3_1 x4_1 [.int .i64 x4_1] (fun _=>True) (fun _=>False) rfl rfl ?aP (fun _ hk=>hk.elim) ?aF ?aO ?aB ?aS ?aL ?_;(case aP=>exact rfl);(case aB=>exact bel);(case aF=>exact (fun _ _=>trivial));(case aO=>exact (by (with_reducible repeat (first|apply Kd.R_alloc|apply Kd.R_drewN|apply Kd.R_drew));exact HO_3.out));(case aS=>exact (below_size bel));(case aL=>have:=LMc3.out;omega);intro v135 w4 ho hb hg hat;rw [← Ny134.out] at ho;have n0_:=Aside0.mk (hb);have n1_:=Aside0.mk (ho);clear HB;clear HO_3;have HB:=n0_;have HO136:=n1_;clear n0_ n1_;clear ho hb hg hat))
     go_roundg k1
     case measure=>have:=HK1.out;omega
     case rel=>exact ⟨(y134),(wrap64 (x4_1+1)),rx,H',⟨by have:=HK1.out;omega⟩,⟨by (with_reducible repeat (first|apply Kd.R_alloc|apply Kd.R_drewN|apply Kd.R_drew));exact HO136.out⟩,⟨by repeat (first|(with_reducible first|exact HB.out|apply below_alloc|apply pw_below_drewN|apply below_drew1)|exact HB.out)⟩⟩
    ·rw [if_neg c3] at H
     exact absurd H (by simp)
   ·rw [if_neg c2] at H
    have c2b0:decide (x4_1<(l0.length:Int))=false:=decide_eq_false c2
    clear c2
    have H':=Aside0.mk H
    clear H
    go_wp2
    go_loopg [5] k1 (fun kq v5 w'=>∃ (x3_2:List Int) (x5_2:Int),v5=.int .i64 x5_2∧Aside0 (r08_marks.l1 kq l0 x3_2 x5_2=some r)∧Aside0 (kq≤k1)∧Aside0 (Kd.R (Kd.int .i64) 3 w' w.heap.size (fun _=>True) u3 x3_2)∧Aside0 (Below w.heap.size w w'))
    case atStart=>exact ⟨(x3_1),(0),rx,H',⟨Nat.le_refl _⟩,⟨by (with_reducible repeat (first|apply Kd.R_alloc|apply Kd.R_drewN|apply Kd.R_drew));exact HO_3.out⟩,⟨by repeat (first|(with_reducible first|exact HB.out|apply below_alloc|apply pw_below_drewN|apply below_drew1)|exact HB.out)⟩⟩
    case round =>
     clear H'
     try clear c2
     try clear c2b0
     try clear p2
     try clear c3
     obtain ⟨x3_2,x5_2,rfl,HA,HK2,HO_3,HB⟩:=hrel
     cases gk with
     | zero=>exact absurd HA.out (by simp [r08_marks.l1])
     | succ k2 =>
      have H:=HA.out
      clear HA
      simp only [r08_marks.l1] at H
      by_cases c5:x5_2<(l0.length:Int)
      ·rw [if_pos c5] at H
       have c5b0:decide (x5_2<(l0.length:Int))=true:=decide_eq_true c5
       clear c5
       have H':=Aside0.mk H
       clear H
       go_wp2
       go_loopg [6] k2 (fun kq v6 w'=>∃ (x3_3:List Int) (x6_3:Int),v6=.int .i64 x6_3∧Aside0 (r08_marks.l2 kq l0 x3_3 x5_2 x6_3=some r)∧Aside0 (kq≤k2)∧Aside0 (Kd.R (Kd.int .i64) 3 w' w.heap.size (fun _=>True) u3 x3_3)∧Aside0 (Below w.heap.size w w'))
       case atStart=>exact ⟨(x3_2),(0),rx,H',⟨Nat.le_refl _⟩,⟨by (with_reducible repeat (first|apply Kd.R_alloc|apply Kd.R_drewN|apply Kd.R_drew));exact HO_3.out⟩,⟨by repeat (first|(with_reducible first|exact HB.out|apply below_alloc|apply pw_below_drewN|apply below_drew1)|exact HB.out)⟩⟩
       case round =>
        clear H'
        try clear c2
        try clear c2b0
        try clear p2
        try clear c3
        try clear c5
        try clear c5b0
        try clear p2
        obtain ⟨x3_3,x6_3,rfl,HA,HK3,HO_3,HB⟩:=hrel
        cases gk with
        | zero=>exact absurd HA.out (by simp [r08_marks.l2])
        | succ k3 =>
         have H:=HA.out
         clear HA
         simp only [r08_marks.l2] at H
         by_cases c6:x6_3<(l0.length:Int)
         ·rw [if_pos c6] at H
          have c6b0:decide (x6_3<(l0.length:Int))=true:=decide_eq_true c6
          clear c6
          have H':=Aside0.mk H
          clear H
          go_wp2
          go_loopg [7] k3 (fun kq v7 w'=>∃ (x3_4:List Int) (x7_4:Int),v7=.int .i64 x7_4∧Aside0 (r08_marks.l3 kq l0 x3_4 x5_2 x6_3 x7_4=some r)∧Aside0 (kq≤k3)∧Aside0 (Kd.R (Kd.int .i64) 3 w' w.heap.size (fun _=>True) u3 x3_4)∧Aside0 (Below w.heap.size w w'))
          case atStart=>exact ⟨(x3_3),(0),rx,H',⟨Nat.le_refl _⟩,⟨by (with_reducible repeat (first|apply Kd.R_alloc|apply Kd.R_drewN|apply Kd.R_drew));exact HO_3.out⟩,⟨by repeat (first|(with_reducible first|exact HB.out|apply below_alloc|apply pw_below_drewN|apply below_drew1)|exact HB.out)⟩⟩
          case round =>
           clear H'
           try clear c2
           try clear c2b0
           try clear p2
           try clear c3
           try clear c5
           try clear c5b0
           try clear c6
           try clear c6b0
           try clear p6
           try clear p2
           obtain ⟨x3_4,x7_4,rfl,HA,HK4,HO_3,HB⟩:=hrel
           cases gk with
           | zero=>exact absurd HA.out (by simp [r08_marks.l3])
           | succ k4 =>
            have H:=HA.out
            clear HA
            simp only [r08_marks.l3] at H
            by_cases c7:x7_4<(l0.length:Int)
            ·rw [if_pos c7] at H
             have c7b0:decide (x7_4<(l0.length:Int))=true:=decide_eq_true c7
             clear c7
             by_cases c8:0≤x6_3
             ·rw [if_pos c8] at H
              have c8b0:decide (0≤x6_3)=true:=decide_eq_true c8
              clear c8
              by_cases c9:x6_3<(l0.length:Int)
              ·rw [if_pos c9] at H
               have c9b0:decide (x6_3<(l0.length:Int))=true:=decide_eq_true c9
               clear c9
               by_cases c10:0≤x7_4
               ·rw [if_pos c10] at H
                have c10b0:decide (0≤x7_4)=true:=decide_eq_true c10
                clear c10
                replace H:=Option.bind_eq_some_iff.mp H
                obtain ⟨t139,A110,H⟩:=H
                replace H:(if t139=true then (if x6_3<(x3_4.length:Int) then (if x7_4<(x3_4.length:Int) then (r08_marks.l3 k4 l0 (x3_4.set (x6_3:Int).toNat (mn (rd x3_4 x6_3) (rd x3_4 x7_4))) x5_2 x6_3 (wrap64 (x7_4+1))) else (none)) else (none)) else (r08_marks.l3 k4 l0 x3_4 x5_2 x6_3 (wrap64 (x7_4+1))))=some r:=H
                have A11:=Aside0.mk A110
                clear A110
                by_cases c12:t139=true
                ·subst c12
                 have H1:(if x6_3<(x3_4.length:Int) then (if x7_4<(x3_4.length:Int) then (r08_marks.l3 k4 l0 (x3_4.set (x6_3:Int).toNat (mn (rd x3_4 x6_3) (rd x3_4 x7_4))) x5_2 x6_3 (wrap64 (x7_4+1))) else (none)) else (none))=some r:=by rw [if_pos rfl] at H;exact H
                 clear H
                 have H:=H1
                 clear H1
                 by_cases c13:x6_3<(x3_4.length:Int)
                 ·rw [if_pos c13] at H
                  have c13b0:decide (x6_3<(x3_4.length:Int))=true:=decide_eq_true c13
                  clear c13
                  by_cases c14:x7_4<(x3_4.length:Int)
                  ·rw [if_pos c14] at H
                   have c14b0:decide (x7_4<(x3_4.length:Int))=true:=decide_eq_true c14
                   clear c14
                   obtain ⟨ji15,hji15⟩:∃ j_:Int,(mn (rd x3_4 x6_3) (rd x3_4 x7_4))=j_:=⟨_,rfl⟩
                   replace H:(r08_marks.l3 k4 l0 (x3_4.set (x6_3:Int).toNat (ji15)) x5_2 x6_3 (wrap64 (x7_4+1)))=some r:=by first|(rw [hji15] at H;exact H)|(simp only [hji15] at H ⊢;exact H)
                   (try rw [hji15] at A11)
                   have hji15_:(if (rd x3_4 x7_4)<(rd x3_4 x6_3) then (rd x3_4 x7_4) else (rd x3_4 x6_3))=ji15:=hji15
                   obtain ⟨y142,hy142⟩:∃ y_:List Int,y_=(x3_4.set (x6_3:Int).toNat (ji15)):=⟨_,rfl⟩
                   replace H:(r08_marks.l3 k4 l0 y142 x5_2 x6_3 (wrap64 (x7_4+1)))=some r:=by first|(rw [hy142];with_reducible exact H)|(have H2_:=(Option.bind_some _ _).symm.trans H;rw [hy142];with_reducible exact H2_)|(have H2_:=(Option.bind_some _ _).symm.trans H;with_reducible exact H2_)|with_reducible exact H|(rw [hy142];exact H)|exact H
                   have Ny142:=Aside0.mk hy142
                   clear hy142
                   have H':=Aside0.mk H
                   clear H
                   try go_wp2
                   have n0_:=Aside0.mk (Kd.R_drew HO_3.out)
                   have n1_:=Aside0.mk (below_drew1 HB.out)
                   clear HO_3
                   clear HB
                   have HO_3:=n0_
                   have HB:=n1_
                   clear n0_ n1_
                   have p137:0≤(x6_3:Int):=of_decide_eq_true asm
                   have q137:x6_3<(l0.length:Int):=of_decide_eq_true asm
                   obtain ⟨ad137,A137_2,c137_2,e137,hx137_0,hx137_1,hx137_2,hl137_2,hi137_2⟩:=at_T52 HR0.out x6_3 p137 q137
                   have hw137_2:=hx137_2
                   have hw137_1:=hx137_1
                   have hw137_0:=hx137_0
                   cases e137
                   replace hx137_0:=pw_cell_below HB.out hx137_0
                   replace hx137_1:=pw_cell_below HB.out hx137_1
                   replace hx137_2:=pw_cell_below HB.out hx137_2
                   have HR137_2:=Aside0.mk hi137_2
                   have HC137_2:=Aside0.mk hl137_2
                   clear hi137_2 hl137_2
                   replace p137:=eq_true p137
                   replace q137:=eq_true q137
                   have p138:0≤(x7_4:Int):=of_decide_eq_true asm
                   have q138:x7_4<(l0.length:Int):=of_decide_eq_true asm
                   obtain ⟨ad138,A138_2,c138_2,e138,hx138_0,hx138_1,hx138_2,hl138_2,hi138_2⟩:=at_T52 HR0.out x7_4 p138 q138
                   have hw138_2:=hx138_2
                   have hw138_1:=hx138_1
                   have hw138_0:=hx138_0
                   obtain rfl:ad137=ad138:=(by injection e138)
                   replace hx138_0:=pw_cell_below HB.out hx138_0
                   replace hx138_1:=pw_cell_below HB.out hx138_1
                   replace hx138_2:=pw_cell_below HB.out hx138_2
                   have HR138_2:=Aside0.mk hi138_2
                   have HC138_2:=Aside0.mk hl138_2
                   clear hi138_2 hl138_2
                   replace p138:=eq_true p138
                   replace q138:=eq_true q138
                   refine start_ (n:=10) (S:=fun w'=>w'.cell? (ad137.add ((x6_3).toNat * 3))=some (.int .i64 ((rd_T52 l0 x6_3).f0))∧w'.cell? ⟨(ad137.add ((x6_3).toNat * 3)).block,(ad137.add ((x6_3).toNat * 3)).off+1,none⟩=some (.int .i64 ((rd_T52 l0 x6_3).f1))∧w'.cell? ⟨(ad137.add ((x6_3).toNat * 3)).block,(ad137.add ((x6_3).toNat * 3)).off+2,none⟩=some (.slice A137_2 ((rd_T52 l0 x6_3).f2).length c137_2)∧w'.cell? (ad137.add ((x7_4).toNat * 3))=some (.int .i64 ((rd_T52 l0 x7_4).f0))∧w'.cell? ⟨(ad137.add ((x7_4).toNat * 3)).block,(ad137.add ((x7_4).toNat * 3)).off+1,none⟩=some (.int .i64 ((rd_T52 l0 x7_4).f1))∧w'.cell? ⟨(ad137.add ((x7_4).toNat * 3)).block,(ad137.add ((x7_4).toNat * 3)).off+2,none⟩=some (.slice A138_2 ((rd_T52 l0 x7_4).f2).length c138_2)) (ds:=[]) #[false,false,false,false,false,false,false,false,false,false] (by kernel_rfl) rfl rfl ⟨((HB.out.cell (World.block_lt_of_cell? w _ hw137_0)).trans hw137_0),((HB.out.cell (World.block_lt_of_cell? w _ hw137_1)).trans hw137_1),((HB.out.cell (World.block_lt_of_cell? w _ hw137_2)).trans hw137_2),((HB.out.cell (World.block_lt_of_cell? w _ hw138_0)).trans hw138_0),((HB.out.cell (World.block_lt_of_cell? w _ hw138_1)).trans hw138_1),((HB.out.cell (World.block_lt_of_cell? w _ hw138_2)).trans hw138_2)⟩ (fun hHeld=>?_);refine with_tabW r08_marks.tab15 r08_marks.bits15 (fun HT_ HW_=>?_)
                   generalize wr.drew=w17 at HO_3 HB HR137_2 HR138_2 hx137_0 hx137_1 hx137_2 hx138_0 hx138_1 hx138_2 hHeld ⊢
                   refine pure_ (i:=0) (N:=some 37) (v:=?_) (a':=?_) #[true,false,false,false,false,false,false,false,false,false] rfl rfl (any_of HT_.out (by kernel_rfl)) (fun _ _ _ h=>h) (Or.inl ⟨by rfl,?_⟩) ?_ ?_
                   rotate_left
                   ·intro w'
                    go_simp
                    with_reducible rfl
                   rotate_left
                   ·simp only [Act.put,List.setIfInBounds_toArray,List.set_cons_zero,List.set_cons_succ,i64_w,i32_w]
                    rfl
                   refine pure_ (i:=1) (N:=some 38) (v:=?_) (a':=?_) #[true,true,false,false,false,false,false,false,false,false] rfl rfl (any_of HT_.out (by kernel_rfl)) (fun _ _ _ h=>h) (Or.inl ⟨by rfl,?_⟩) ?_ ?_
                   rotate_left
                   ·intro w'
                    go_simp
                    with_reducible rfl
                   rotate_left
                   ·simp only [Act.put,List.setIfInBounds_toArray,List.set_cons_zero,List.set_cons_succ,i64_w,i32_w]
                    rfl
                   refine pure_ (i:=2) (N:=some 39) (v:=?_) (a':=?_) #[true,true,true,false,false,false,false,false,false,false] rfl rfl (any_of HT_.out (by kernel_rfl)) (fun _ _ _ h=>h) (Or.inl ⟨by rfl,?_⟩) ?_ ?_
                   rotate_left
                   ·intro w'
                    go_simp
                    with_reducible rfl
                   rotate_left
                   ·simp only [Act.put,List.setIfInBounds_toArray,List.set_cons_zero,List.set_cons_succ,i64_w,i32_w]
                    rfl
                   refine pure_ (i:=4) (N:=some 41) (v:=?_) (a':=?_) #[true,true,true,false,true,false,false,false,false,false] rfl rfl (any_of HT_.out (by kernel_rfl)) (fun _ _ _ h=>h) (Or.inl ⟨by rfl,?_⟩) ?_ ?_
                   rotate_left
                   ·intro w'
                    go_simp
                    with_reducible rfl
                   rotate_left
                   ·simp only [Act.put,List.setIfInBounds_toArray,List.set_cons_zero,List.set_cons_succ,i64_w,i32_w]
                    rfl
                   refine pure_ (i:=5) (N:=some 42) (v:=?_) (a':=?_) #[true,true,true,false,true,true,false,false,false,false] rfl rfl (any_of HT_.out (by kernel_rfl)) (fun _ _ _ h=>h) (Or.inl ⟨by rfl,?_⟩) ?_ ?_
                   rotate_left
                   ·intro w'
                    go_simp
                    with_reducible rfl
                   rotate_left
                   ·simp only [Act.put,List.setIfInBounds_toArray,List.set_cons_zero,List.set_cons_succ,i64_w,i32_w]
                    rfl
                   refine pure_ (i:=6) (N:=some 43) (v:=?_) (a':=?_) #[true,true,true,false,true,true,true,false,false,false] rfl rfl (any_of HT_.out (by kernel_rfl)) (fun _ _ _ h=>h) (Or.inl ⟨by rfl,?_⟩) ?_ ?_
                   rotate_left
                   ·intro w'
                    go_simp
                    with_reducible rfl
                   rotate_left
                   ·simp only [Act.put,List.setIfInBounds_toArray,List.set_cons_zero,List.set_cons_succ,i64_w,i32_w]
                    rfl
                   refine take_ (i:=3) (N:=some 40) (v:=?_) (a':=?_) #[true,true,true,true,true,true,true,false,false,false] rfl rfl (take_ofW HT_.out HW_.out (by kernel_rfl)) (fun _ _ _ h=>h) (Or.inl ⟨by rfl,?_⟩) hHeld ?_ ?_
                   rotate_left
                   ·rintro w' ⟨s0,s1,s2,s3,s4,s5⟩
                    go_simp
                    with_reducible rfl
                   rotate_left
                   ·simp only [Act.put,List.setIfInBounds_toArray,List.set_cons_zero,List.set_cons_succ,i64_w,i32_w]
                    rfl
                   refine take_ (i:=7) (N:=some 44) (v:=?_) (a':=?_) #[true,true,true,true,true,true,true,true,false,false] rfl rfl (take_ofW HT_.out HW_.out (by kernel_rfl)) (fun _ _ _ h=>h) (Or.inl ⟨by rfl,?_⟩) hHeld ?_ ?_
                   rotate_left
                   ·rintro w' ⟨s0,s1,s2,s3,s4,s5⟩
                    go_simp
                    with_reducible rfl
                   rotate_left
                   ·simp only [Act.put,List.setIfInBounds_toArray,List.set_cons_zero,List.set_cons_succ,i64_w,i32_w]
                    rfl
                   refine one_ (i:=8) (N:=some 45) #[true,true,true,true,true,true,true,true,true,false] rfl rfl (one_of HT_.out (by kernel_rfl)) (by decide) (fun K hK=>?_)
                   refine goes_ Try.func35 (by kernel_rfl) rfl #[.agg #[.int .i64 ((rd_T52 l0 x6_3).f0),.int .i64 ((rd_T52 l0 x6_3).f1),.slice A137_2 ((rd_T52 l0 x6_3).f2).length c137_2],.agg #[.int .i64 ((rd_T52 l0 x7_4).f0),.int .i64 ((rd_T52 l0 x7_4).f1),.slice A138_2 ((rd_T52 l0 x7_4).f2).length c138_2]] (by rfl) rfl rfl (by (try simp only [List.map_toArray,List.map_cons,List.map_nil]);first|done|rfl|(simp only [List.length_drop,List.length_take];rfl)) ?_
                   with_reducible refine (r08_meet.calls ((rd_T52 l0 x6_3).f0) ((rd_T52 l0 x6_3).f1) _ _ ((rd_T52 l0 x6_3).f2) ((rd_T52 l0 x7_4).f0) ((rd_T52 l0 x7_4).f1) _ _ ((rd_T52 l0 x7_4).f2) true _ ?side1 ?side2 ?side3 ?side4 A11.out).mono ?_
                   (case side1=>repeat (first|exact (Kd.C_below HR137_2.out HB.out)|(with_reducible refine Kd.C_alloc ?_ _)|(with_reducible refine Kd.C_drewN ?_ _)|(with_reducible refine Kd.C_drew ?_)))
                   (case side2=>exact HC137_2.out)
                   (case side3=>repeat (first|exact (Kd.C_below HR138_2.out HB.out)|(with_reducible refine Kd.C_alloc ?_ _)|(with_reducible refine Kd.C_drewN ?_ _)|(with_reducible refine Kd.C_drew ?_)))
                   (case side4=>exact HC138_2.out)
                   rintro e w18 ⟨rfl,hb⟩
                   refine ⟨_,rfl,?_⟩
                   have n0_:=Aside0.mk (Kd.R_below (by (with_reducible repeat (first|apply Kd.R_alloc|apply Kd.R_drewN|apply Kd.R_drew));exact HO_3.out) hb)
                   have n1_:=Aside0.mk (below_step bel hb)
                   clear HO_3
                   clear HB
                   have HO_3:=n0_
                   have HB:=n1_
                   clear n0_ n1_
                   (try clear hb)
                   (try clear hb2)
                   (try clear hk)
                   (try clear hi)
                   refine hK.out _ _ ⟨((HB.out.cell (World.block_lt_of_cell? w _ hw137_0)).trans hw137_0),((HB.out.cell (World.block_lt_of_cell? w _ hw137_1)).trans hw137_1),((HB.out.cell (World.block_lt_of_cell? w _ hw137_2)).trans hw137_2),((HB.out.cell (World.block_lt_of_cell? w _ hw138_0)).trans hw138_0),((HB.out.cell (World.block_lt_of_cell? w _ hw138_1)).trans hw138_1),((HB.out.cell (World.block_lt_of_cell? w _ hw138_2)).trans hw138_2)⟩ (fun hHeld=>?_)
                   clear hK K
                   refine norm_ (a':=?_) ?_ ?_
                   rotate_left
                   ·show Act.put _ (some 45) _=_
                    simp only [Act.put,List.setIfInBounds_toArray,List.set_cons_zero,List.set_cons_succ,i64_w,i32_w]
                    rfl
                   refine pure_ (i:=9) (N:=some 8) (v:=?_) (a':=?_) #[true,true,true,true,true,true,true,true,true,true] rfl rfl (any_of HT_.out (by kernel_rfl)) (fun _ _ _ h=>h) (Or.inl ⟨by rfl,?_⟩) ?_ ?_
                   rotate_left
                   ·intro w'
                    go_simp
                    with_reducible rfl
                   rotate_left
                   ·simp only [Act.put,List.setIfInBounds_toArray,List.set_cons_zero,List.set_cons_succ,i64_w,i32_w]
                    rfl
                   refine done_ (done_of HT_.out (by kernel_rfl)) ?_
                   try go_wp2
                   have n0_:=Aside0.mk (Kd.R_drew HO_3.out)
                   have n1_:=Aside0.mk (below_drew1 HB.out)
                   clear HO_3
                   clear HB
                   have HO_3:=n0_
                   have HB:=n1_
                   clear n0_ n1_
                   obtain ⟨Ao20,co20,eo20⟩:=Kd.R_slice HO_3.out
                   (first|subst eo20|(injection eo20 with f1_ f2_ f3_;have f4_:=f1_.symm;have f5_:=f3_.symm;clear f1_ f2_ f3_;subst f4_;subst f5_))
                   have p140:0≤(x6_3:Int):=of_decide_eq_true asm
                   have q140:x6_3<(x3_4.length:Int):=of_decide_eq_true asm
                   obtain ⟨ad140,e140,hx140_0⟩:=Kd.at_int (Kd.R_reads' HO_3.out).2.2 x6_3 p140 q140
                   cases e140
                   replace p140:=eq_true p140
                   replace q140:=eq_true q140
                   have p141:0≤(x7_4:Int):=of_decide_eq_true asm
                   have q141:x7_4<(x3_4.length:Int):=of_decide_eq_true asm
                   obtain ⟨ad141,e141,hx141_0⟩:=Kd.at_int (Kd.R_reads' HO_3.out).2.2 x7_4 p141 q141
                   obtain rfl:ad140=ad141:=(by injection e141)
                   replace p141:=eq_true p141
                   replace q141:=eq_true q141
                   have p16:0≤(x6_3:Int):=of_decide_eq_true asm
                   have q16:(x6_3:Int)<((x3_4.length:Int):Int):=of_decide_eq_true asm
                   obtain ⟨go16,co16,eo16,gb16,gl16,cl16,HG16⟩:=Kd.R_form HO_3.out (by omega)
                   (first|cases eo16|(injection eo16 with ea_ en_ ec_;(first|subst ea_|(injection ea_ with ea_;subst ea_));subst ec_;clear en_))
                   have GB16:=Aside0.mk gb16
                   have GG16:=Aside0.mk HG16
                   clear gb16 gl16 HG16
                   (first|simp only [add_plain] at hx140_0|skip)
                   (first|simp only [add_plain] at hx141_0|skip)
                   obtain ⟨hx16_0,hf16_0⟩:=Kd.R_celln 0 HO_3.out (x6_3:Int) p16 q16
                   replace p16:=eq_true p16
                   replace q16:=eq_true q16
                   have HP21:=Kd.R_putn HO_3.out (x6_3:Int) ji15
                   rw [← Ny142.out] at HP21
                   have HQ21:=Aside0.mk HP21
                   clear HP21
                   refine start_ (n:=13) (S:=fun w'=>w'.cell? ⟨go16,(x6_3).toNat,none⟩=some (.int .i64 (rd x3_4 x6_3))∧w'.cell? ⟨go16,(x7_4).toNat,none⟩=some (.int .i64 (rd x3_4 x7_4))) (ds:=[12]) #[false,false,false,false,false,false,false,false,false,false,false,false,false] (by kernel_rfl) rfl rfl ⟨hx140_0,hx141_0⟩ (fun hHeld=>?_);refine with_tabW r08_marks.tab17 r08_marks.bits17 (fun HT_ HW_=>?_)
                   generalize w18.drew=w19 at HO_3 HB GG16 HQ21 hf16_0 hx140_0 hx141_0 hx16_0 hHeld ⊢
                   refine pure_ (i:=0) (N:=some 47) (v:=?_) (a':=?_) #[true,false,false,false,false,false,false,false,false,false,false,false,false] rfl rfl (any_of HT_.out (by kernel_rfl)) (fun _ _ _ h=>h) (Or.inl ⟨by rfl,?_⟩) ?_ ?_
                   rotate_left
                   ·intro w'
                    go_simp
                    with_reducible rfl
                   rotate_left
                   ·simp only [Act.put,List.setIfInBounds_toArray,List.set_cons_zero,List.set_cons_succ,i64_w,i32_w]
                    rfl
                   refine pure_ (i:=1) (N:=some 48) (v:=?_) (a':=?_) #[true,true,false,false,false,false,false,false,false,false,false,false,false] rfl rfl (any_of HT_.out (by kernel_rfl)) (fun _ _ _ h=>h) (Or.inl ⟨by rfl,?_⟩) ?_ ?_
                   rotate_left
                   ·intro w'
                    go_simp
                    with_reducible rfl
                   rotate_left
                   ·simp only [Act.put,List.setIfInBounds_toArray,List.set_cons_zero,List.set_cons_succ,i64_w,i32_w]
                    rfl
                   refine pure_ (i:=2) (N:=some 49) (v:=?_) (a':=?_) #[true,true,true,false,false,false,false,false,false,false,false,false,false] rfl rfl (any_of HT_.out (by kernel_rfl)) (fun _ _ _ h=>h) (Or.inl ⟨by rfl,?_⟩) ?_ ?_
                   rotate_left
                   ·intro w'
                    go_simp
                    with_reducible rfl
                   rotate_left
                   ·simp only [Act.put,List.setIfInBounds_toArray,List.set_cons_zero,List.set_cons_succ,i64_w,i32_w]
                    rfl
                   refine pure_ (i:=3) (N:=some 50) (v:=?_) (a':=?_) #[true,true,true,true,false,false,false,false,false,false,false,false,false] rfl rfl (any_of HT_.out (by kernel_rfl)) (fun _ _ _ h=>h) (Or.inl ⟨by rfl,?_⟩) ?_ ?_
                   rotate_left
                   ·intro w'
                    go_simp
                    with_reducible rfl
                   rotate_left
                   ·simp only [Act.put,List.setIfInBounds_toArray,List.set_cons_zero,List.set_cons_succ,i64_w,i32_w]
                    rfl
                   refine pure_ (i:=4) (N:=some 51) (v:=?_) (a':=?_) #[true,true,true,true,true,false,false,false,false,false,false,false,false] rfl rfl (any_of HT_.out (by kernel_rfl)) (fun _ _ _ h=>h) (Or.inl ⟨by rfl,?_⟩) ?_ ?_
                   rotate_left
                   ·intro w'
                    go_simp
                    with_reducible rfl
                   rotate_left
                   ·simp only [Act.put,List.setIfInBounds_toArray,List.set_cons_zero,List.set_cons_succ,i64_w,i32_w]
                    rfl
                   refine pure_ (i:=6) (N:=some 53) (v:=?_) (a':=?_) #[true,true,true,true,true,false,true,false,false,false,false,false,false] rfl rfl (any_of HT_.out (by kernel_rfl)) (fun _ _ _ h=>h) (Or.inl ⟨by rfl,?_⟩) ?_ ?_
                   rotate_left
                   ·intro w'
                    go_simp
                    with_reducible rfl
                   rotate_left
                   ·simp only [Act.put,List.setIfInBounds_toArray,List.set_cons_zero,List.set_cons_succ,i64_w,i32_w]
                    rfl
                   refine pure_ (i:=7) (N:=some 54) (v:=?_) (a':=?_) #[true,true,true,true,true,false,true,true,false,false,false,false,false] rfl rfl (any_of HT_.out (by kernel_rfl)) (fun _ _ _ h=>h) (Or.inl ⟨by rfl,?_⟩) ?_ ?_
                   rotate_left
                   ·intro w'
                    go_simp
                    with_reducible rfl
                   rotate_left
                   ·simp only [Act.put,List.setIfInBounds_toArray,List.set_cons_zero,List.set_cons_succ,i64_w,i32_w]
                    rfl
                   refine pure_ (i:=8) (N:=some 55) (v:=?_) (a':=?_) #[true,true,true,true,true,false,true,true,true,false,false,false,false] rfl rfl (any_of HT_.out (by kernel_rfl)) (fun _ _ _ h=>h) (Or.inl ⟨by rfl,?_⟩) ?_ ?_
                   rotate_left
                   ·intro w'
                    go_simp
                    with_reducible rfl
                   rotate_left
                   ·simp only [Act.put,List.setIfInBounds_toArray,List.set_cons_zero,List.set_cons_succ,i64_w,i32_w]
                    rfl
                   refine take_ (i:=5) (N:=some 52) (v:=?_) (a':=?_) #[true,true,true,true,true,true,true,true,true,false,false,false,false] rfl rfl (take_ofW HT_.out HW_.out (by kernel_rfl)) (fun _ _ _ h=>h) (Or.inl ⟨by rfl,?_⟩) hHeld ?_ ?_
                   rotate_left
                   ·rintro w' ⟨s0,s1⟩
                    go_simp
                    with_reducible rfl
                   rotate_left
                   ·simp only [Act.put,List.setIfInBounds_toArray,List.set_cons_zero,List.set_cons_succ,i64_w,i32_w]
                    rfl
                   refine take_ (i:=9) (N:=some 56) (v:=?_) (a':=?_) #[true,true,true,true,true,true,true,true,true,true,false,false,false] rfl rfl (take_ofW HT_.out HW_.out (by kernel_rfl)) (fun _ _ _ h=>h) (Or.inl ⟨by rfl,?_⟩) hHeld ?_ ?_
                   rotate_left
                   ·rintro w' ⟨s0,s1⟩
                    go_simp
                    with_reducible rfl
                   rotate_left
                   ·simp only [Act.put,List.setIfInBounds_toArray,List.set_cons_zero,List.set_cons_succ,i64_w,i32_w]
                    rfl
                   refine pure_ (i:=10) (N:=some 57) (v:=?_) (a':=?_) #[true,true,true,true,true,true,true,true,true,true,true,false,false] rfl rfl (any_of HT_.out (by kernel_rfl)) (fun _ _ _ h=>h) (Or.inl ⟨by rfl,?_⟩) ?_ ?_
                   rotate_left
                   ·intro w'
                    go_simp
                    with_reducible rfl
                   rotate_left
                   ·simp only [Act.put,List.setIfInBounds_toArray,List.set_cons_zero,List.set_cons_succ,i64_w,i32_w]
                    rfl
                   refine pure_ (i:=11) (N:=some 58) (v:=?_) (a':=?_) #[true,true,true,true,true,true,true,true,true,true,true,true,false] rfl rfl (any_of HT_.out (by kernel_rfl)) (fun _ _ _ h=>h) (Or.inl ⟨by rfl,?_⟩) ?_ ?_
                   rotate_left
                   ·intro w'
                    go_simp
                    with_reducible rfl
                   rotate_left
                   ·simp only [Act.put,List.setIfInBounds_toArray,List.set_cons_zero,List.set_cons_succ,i64_w,i32_w]
                    rfl
                   refine last_ (i:=12) (N:=none) #[true,true,true,true,true,true,true,true,true,true,true,true,true] rfl rfl (one_of HT_.out (by kernel_rfl)) (by decide) (fun K hK=>?_)
                   refine skip_ (w1:=?_) (by rfl) rfl ?_ ?_
                   rotate_left
                   ·go_simp
                    rfl
                   refine hK.out _ _ ?_
                   clear hK K
                   refine done_ (done_of HT_.out (by kernel_rfl)) ?_
                   try go_wp2
                   go_roundg k4
                   case measure=>have:=HK1.out;have:=HK2.out;have:=HK3.out;have:=HK4.out;omega
                   case rel=>exact ⟨(y142),(wrap64 (x7_4+1)),rx,H',⟨by have:=HK1.out;have:=HK2.out;have:=HK3.out;have:=HK4.out;omega⟩,⟨by (with_reducible repeat (first|apply Kd.R_alloc|apply Kd.R_drewN|apply Kd.R_drew));exact HQ21.out⟩,⟨by repeat (first|(with_reducible first|exact HB.out|apply below_alloc|apply pw_below_drewN|apply below_drew1|refine below_set ?_ GB16.out)|exact HB.out)⟩⟩
                  ·rw [if_neg c14] at H
                   exact absurd H (by simp)
                 ·rw [if_neg c13] at H
                  exact absurd H (by simp)
                ·replace c12:=Bool.eq_false_iff.mpr c12
                 subst c12
                 have H1:(r08_marks.l3 k4 l0 x3_4 x5_2 x6_3 (wrap64 (x7_4+1)))=some r:=by rw [if_neg (show ¬ (false=true) by decide)] at H;exact H
                 clear H
                 have H:=H1
                 clear H1
                 have H':=Aside0.mk H
                 clear H
                 try go_wp2
                 have n0_:=Aside0.mk (Kd.R_drew HO_3.out)
                 have n1_:=Aside0.mk (below_drew1 HB.out)
                 clear HO_3
                 clear HB
                 have HO_3:=n0_
                 have HB:=n1_
                 clear n0_ n1_
                 have p137:0≤(x6_3:Int):=of_decide_eq_true asm
                 have q137:x6_3<(l0.length:Int):=of_decide_eq_true asm
                 obtain ⟨ad137,A137_2,c137_2,e137,hx137_0,hx137_1,hx137_2,hl137_2,hi137_2⟩:=at_T52 HR0.out x6_3 p137 q137
                 have hw137_2:=hx137_2
                 have hw137_1:=hx137_1
                 have hw137_0:=hx137_0
                 cases e137
                 replace hx137_0:=pw_cell_below HB.out hx137_0
                 replace hx137_1:=pw_cell_below HB.out hx137_1
                 replace hx137_2:=pw_cell_below HB.out hx137_2
                 have HR137_2:=Aside0.mk hi137_2
                 have HC137_2:=Aside0.mk hl137_2
                 clear hi137_2 hl137_2
                 replace p137:=eq_true p137
                 replace q137:=eq_true q137
                 have p138:0≤(x7_4:Int):=of_decide_eq_true asm
                 have q138:x7_4<(l0.length:Int):=of_decide_eq_true asm
                 obtain ⟨ad138,A138_2,c138_2,e138,hx138_0,hx138_1,hx138_2,hl138_2,hi138_2⟩:=at_T52 HR0.out x7_4 p138 q138
                 have hw138_2:=hx138_2
                 have hw138_1:=hx138_1
                 have hw138_0:=hx138_0
                 obtain rfl:ad137=ad138:=(by injection e138)
                 replace hx138_0:=pw_cell_below HB.out hx138_0
                 replace hx138_1:=pw_cell_below HB.out hx138_1
                 replace hx138_2:=pw_cell_below HB.out hx138_2
                 have HR138_2:=Aside0.mk hi138_2
                 have HC138_2:=Aside0.mk hl138_2
                 clear hi138_2 hl138_2
                 replace p138:=eq_true p138
                 replace q138:=eq_true q138
                 refine start_ (n:=10) (S:=fun w'=>w'.cell? (ad137.add ((x6_3).toNat * 3))=some (.int .i64 ((rd_T52 l0 x6_3).f0))∧w'.cell? ⟨(ad137.add ((x6_3).toNat * 3)).block,(ad137.add ((x6_3).toNat * 3)).off+1,none⟩=some (.int .i64 ((rd_T52 l0 x6_3).f1))∧w'.cell? ⟨(ad137.add ((x6_3).toNat * 3)).block,(ad137.add ((x6_3).toNat * 3)).off+2,none⟩=some (.slice A137_2 ((rd_T52 l0 x6_3).f2).length c137_2)∧w'.cell? (ad137.add ((x7_4).toNat * 3))=some (.int .i64 ((rd_T52 l0 x7_4).f0))∧w'.cell? ⟨(ad137.add ((x7_4).toNat * 3)).block,(ad137.add ((x7_4).toNat * 3)).off+1,none⟩=some (.int .i64 ((rd_T52 l0 x7_4).f1))∧w'.cell? ⟨(ad137.add ((x7_4).toNat * 3)).block,(ad137.add ((x7_4).toNat * 3)).off+2,none⟩=some (.slice A138_2 ((rd_T52 l0 x7_4).f2).length c138_2)) (ds:=[]) #[false,false,false,false,false,false,false,false,false,false] (by kernel_rfl) rfl rfl ⟨((HB.out.cell (World.block_lt_of_cell? w _ hw137_0)).trans hw137_0),((HB.out.cell (World.block_lt_of_cell? w _ hw137_1)).trans hw137_1),((HB.out.cell (World.block_lt_of_cell? w _ hw137_2)).trans hw137_2),((HB.out.cell (World.block_lt_of_cell? w _ hw138_0)).trans hw138_0),((HB.out.cell (World.block_lt_of_cell? w _ hw138_1)).trans hw138_1),((HB.out.cell (World.block_lt_of_cell? w _ hw138_2)).trans hw138_2)⟩ (fun hHeld=>?_);refine with_tabW r08_marks.tab15 r08_marks.bits15 (fun HT_ HW_=>?_)
                 generalize wr.drew=w22 at HO_3 HB HR137_2 HR138_2 hx137_0 hx137_1 hx137_2 hx138_0 hx138_1 hx138_2 hHeld ⊢
                 refine pure_ (i:=0) (N:=some 37) (v:=?_) (a':=?_) #[true,false,false,false,false,false,false,false,false,false] rfl rfl (any_of HT_.out (by kernel_rfl)) (fun _ _ _ h=>h) (Or.inl ⟨by rfl,?_⟩) ?_ ?_
                 rotate_left
                 ·intro w'
                  go_simp
                  with_reducible rfl
                 rotate_left
                 ·simp only [Act.put,List.setIfInBounds_toArray,List.set_cons_zero,List.set_cons_succ,i64_w,i32_w]
                  rfl
                 refine pure_ (i:=1) (N:=some 38) (v:=?_) (a':=?_) #[true,true,false,false,false,false,false,false,false,false] rfl rfl (any_of HT_.out (by kernel_rfl)) (fun _ _ _ h=>h) (Or.inl ⟨by rfl,?_⟩) ?_ ?_
                 rotate_left
                 ·intro w'
                  go_simp
                  with_reducible rfl
                 rotate_left
                 ·simp only [Act.put,List.setIfInBounds_toArray,List.set_cons_zero,List.set_cons_succ,i64_w,i32_w]
                  rfl
                 refine pure_ (i:=2) (N:=some 39) (v:=?_) (a':=?_) #[true,true,true,false,false,false,false,false,false,false] rfl rfl (any_of HT_.out (by kernel_rfl)) (fun _ _ _ h=>h) (Or.inl ⟨by rfl,?_⟩) ?_ ?_
                 rotate_left
                 ·intro w'
                  go_simp
                  with_reducible rfl
                 rotate_left
                 ·simp only [Act.put,List.setIfInBounds_toArray,List.set_cons_zero,List.set_cons_succ,i64_w,i32_w]
                  rfl
                 refine pure_ (i:=4) (N:=some 41) (v:=?_) (a':=?_) #[true,true,true,false,true,false,false,false,false,false] rfl rfl (any_of HT_.out (by kernel_rfl)) (fun _ _ _ h=>h) (Or.inl ⟨by rfl,?_⟩) ?_ ?_
                 rotate_left
                 ·intro w'
                  go_simp
                  with_reducible rfl
                 rotate_left
                 ·simp only [Act.put,List.setIfInBounds_toArray,List.set_cons_zero,List.set_cons_succ,i64_w,i32_w]
                  rfl
                 refine pure_ (i:=5) (N:=some 42) (v:=?_) (a':=?_) #[true,true,true,false,true,true,false,false,false,false] rfl rfl (any_of HT_.out (by kernel_rfl)) (fun _ _ _ h=>h) (Or.inl ⟨by rfl,?_⟩) ?_ ?_
                 rotate_left
                 ·intro w'
                  go_simp
                  with_reducible rfl
                 rotate_left
                 ·simp only [Act.put,List.setIfInBounds_toArray,List.set_cons_zero,List.set_cons_succ,i64_w,i32_w]
                  rfl
                 refine pure_ (i:=6) (N:=some 43) (v:=?_) (a':=?_) #[true,true,true,false,true,true,true,false,false,false] rfl rfl (any_of HT_.out (by kernel_rfl)) (fun _ _ _ h=>h) (Or.inl ⟨by rfl,?_⟩) ?_ ?_
                 rotate_left
                 ·intro w'
                  go_simp
                  with_reducible rfl
                 rotate_left
                 ·simp only [Act.put,List.setIfInBounds_toArray,List.set_cons_zero,List.set_cons_succ,i64_w,i32_w]
                  rfl
                 refine take_ (i:=3) (N:=some 40) (v:=?_) (a':=?_) #[true,true,true,true,true,true,true,false,false,false] rfl rfl (take_ofW HT_.out HW_.out (by kernel_rfl)) (fun _ _ _ h=>h) (Or.inl ⟨by rfl,?_⟩) hHeld ?_ ?_
                 rotate_left
                 ·rintro w' ⟨s0,s1,s2,s3,s4,s5⟩
                  go_simp
                  with_reducible rfl
                 rotate_left
                 ·simp only [Act.put,List.setIfInBounds_toArray,List.set_cons_zero,List.set_cons_succ,i64_w,i32_w]
                  rfl
                 refine take_ (i:=7) (N:=some 44) (v:=?_) (a':=?_) #[true,true,true,true,true,true,true,true,false,false] rfl rfl (take_ofW HT_.out HW_.out (by kernel_rfl)) (fun _ _ _ h=>h) (Or.inl ⟨by rfl,?_⟩) hHeld ?_ ?_
                 rotate_left
                 ·rintro w' ⟨s0,s1,s2,s3,s4,s5⟩
                  go_simp
                  with_reducible rfl
                 rotate_left
                 ·simp only [Act.put,List.setIfInBounds_toArray,List.set_cons_zero,List.set_cons_succ,i64_w,i32_w]
                  rfl
                 refine one_ (i:=8) (N:=some 45) #[true,true,true,true,true,true,true,true,true,false] rfl rfl (one_of HT_.out (by kernel_rfl)) (by decide) (fun K hK=>?_)
                 refine goes_ Try.func35 (by kernel_rfl) rfl #[.agg #[.int .i64 ((rd_T52 l0 x6_3).f0),.int .i64 ((rd_T52 l0 x6_3).f1),.slice A137_2 ((rd_T52 l0 x6_3).f2).length c137_2],.agg #[.int .i64 ((rd_T52 l0 x7_4).f0),.int .i64 ((rd_T52 l0 x7_4).f1),.slice A138_2 ((rd_T52 l0 x7_4).f2).length c138_2]] (by rfl) rfl rfl (by (try simp only [List.map_toArray,List.map_cons,List.map_nil]);first|done|rfl|(simp only [List.length_drop,List.length_take];rfl)) ?_
                 with_reducible refine (r08_meet.calls ((rd_T52 l0 x6_3).f0) ((rd_T52 l0 x6_3).f1) _ _ ((rd_T52 l0 x6_3).f2) ((rd_T52 l0 x7_4).f0) ((rd_T52 l0 x7_4).f1) _ _ ((rd_T52 l0 x7_4).f2) false _ ?side1 ?side2 ?side3 ?side4 A11.out).mono ?_
                 (case side1=>repeat (first|exact (Kd.C_below HR137_2.out HB.out)|(with_reducible refine Kd.C_alloc ?_ _)|(with_reducible refine Kd.C_drewN ?_ _)|(with_reducible refine Kd.C_drew ?_)))
                 (case side2=>exact HC137_2.out)
                 (case side3=>repeat (first|exact (Kd.C_below HR138_2.out HB.out)|(with_reducible refine Kd.C_alloc ?_ _)|(with_reducible refine Kd.C_drewN ?_ _)|(with_reducible refine Kd.C_drew ?_)))
                 (case side4=>exact HC138_2.out)
                 rintro e w23 ⟨rfl,hb⟩
                 refine ⟨_,rfl,?_⟩
                 have n0_:=Aside0.mk (Kd.R_below (by (with_reducible repeat (first|apply Kd.R_alloc|apply Kd.R_drewN|apply Kd.R_drew));exact HO_3.out) hb)
                 have n1_:=Aside0.mk (below_step bel hb)
                 clear HO_3
                 clear HB
                 have HO_3:=n0_
                 have HB:=n1_
                 clear n0_ n1_
                 (try clear hb)
                 (try clear hb2)
                 (try clear hk)
                 (try clear hi)
                 refine hK.out _ _ ⟨((HB.out.cell (World.block_lt_of_cell? w _ hw137_0)).trans hw137_0),((HB.out.cell (World.block_lt_of_cell? w _ hw137_1)).trans hw137_1),((HB.out.cell (World.block_lt_of_cell? w _ hw137_2)).trans hw137_2),((HB.out.cell (World.block_lt_of_cell? w _ hw138_0)).trans hw138_0),((HB.out.cell (World.block_lt_of_cell? w _ hw138_1)).trans hw138_1),((HB.out.cell (World.block_lt_of_cell? w _ hw138_2)).trans hw138_2)⟩ (fun hHeld=>?_)
                 clear hK K
                 refine norm_ (a':=?_) ?_ ?_
                 rotate_left
                 ·show Act.put _ (some 45) _=_
                  simp only [Act.put,List.setIfInBounds_toArray,List.set_cons_zero,List.set_cons_succ,i64_w,i32_w]
                  rfl
                 refine pure_ (i:=9) (N:=some 8) (v:=?_) (a':=?_) #[true,true,true,true,true,true,true,true,true,true] rfl rfl (any_of HT_.out (by kernel_rfl)) (fun _ _ _ h=>h) (Or.inl ⟨by rfl,?_⟩) ?_ ?_
                 rotate_left
                 ·intro w'
                  go_simp
                  with_reducible rfl
                 rotate_left
                 ·simp only [Act.put,List.setIfInBounds_toArray,List.set_cons_zero,List.set_cons_succ,i64_w,i32_w]
                  rfl
                 refine done_ (done_of HT_.out (by kernel_rfl)) ?_
                 try go_wp2
                 go_roundg k4
                 case measure=>have:=HK1.out;have:=HK2.out;have:=HK3.out;have:=HK4.out;omega
                 case rel=>exact ⟨(x3_4),(wrap64 (x7_4+1)),rx,H',⟨by have:=HK1.out;have:=HK2.out;have:=HK3.out;have:=HK4.out;omega⟩,⟨by (with_reducible repeat (first|apply Kd.R_alloc|apply Kd.R_drewN|apply Kd.R_drew));exact HO_3.out⟩,⟨by repeat (first|(with_reducible first|exact HB.out|apply below_alloc|apply pw_below_drewN|apply below_drew1)|exact HB.out)⟩⟩
               ·rw [if_neg c10] at H
                exact absurd H (by simp)
              ·rw [if_neg c9] at H
               exact absurd H (by simp)
             ·rw [if_neg c8] at H
              exact absurd H (by simp)
            ·rw [if_neg c7] at H
             have c7b0:decide (x7_4<(l0.length:Int))=false:=decide_eq_false c7
             clear c7
             have H':=Aside0.mk H
             clear H
             go_wp2
             go_roundg k4
             case measure=>have:=HK1.out;have:=HK2.out;have:=HK3.out;have:=HK4.out;omega
             case rel=>exact ⟨(x3_4),(wrap64 (x6_3+1)),rx,H',⟨by have:=HK1.out;have:=HK2.out;have:=HK3.out;have:=HK4.out;omega⟩,⟨by (with_reducible repeat (first|apply Kd.R_alloc|apply Kd.R_drewN|apply Kd.R_drew));exact HO_3.out⟩,⟨by repeat (first|(with_reducible first|exact HB.out|apply below_alloc|apply pw_below_drewN|apply below_drew1)|exact HB.out)⟩⟩
         ·rw [if_neg c6] at H
          have c6b0:decide (x6_3<(l0.length:Int))=false:=decide_eq_false c6
          clear c6
          have H':=Aside0.mk H
          clear H
          go_wp2
          go_roundg k3
          case measure=>have:=HK1.out;have:=HK2.out;have:=HK3.out;omega
          case rel=>exact ⟨(x3_3),(wrap64 (x5_2+1)),rx,H',⟨by have:=HK1.out;have:=HK2.out;have:=HK3.out;omega⟩,⟨by (with_reducible repeat (first|apply Kd.R_alloc|apply Kd.R_drewN|apply Kd.R_drew));exact HO_3.out⟩,⟨by repeat (first|(with_reducible first|exact HB.out|apply below_alloc|apply pw_below_drewN|apply below_drew1)|exact HB.out)⟩⟩
      ·rw [if_neg c5] at H
       have c5b0:decide (x5_2<(l0.length:Int))=false:=decide_eq_false c5
       clear c5
       obtain rfl:=Option.some.inj H
       go_wp2
       go_ret
       exact ⟨_,by first|rfl|(simp [errW_none,errW_some]<;>rfl)|(simp [*,errW_none,errW_some]<;>rfl),by (with_reducible repeat (first|apply Kd.R_alloc|apply Kd.R_drewN|apply Kd.R_drew));exact HO_3.out,bel⟩






end Go.Proofs.Ytnmphfelebkaiaa.Pr
-- shrunk
/-
The printed marks answers marksM.
-/
namespace Go.Proofs.Ytnmphfelebkaiaa.Pr
open Go.RowKit Go.Proofs.YtnmphfelebkaiaaW.PrintWords Go.Proofs.YtnmphfelebkaiaaW.PrintLast Go.Proofs.YtnmphfelebkaiaaW.PrintMore
def EdB (l:List Ed):Prop:=∀ i,-1≤(edA l i).f0∧(edA l i).f0≤1099511627776∧0≤(edA l i).f1∧(edA l i).f1≤1099511627776
theorem rdT_nat (l:List Ed) (i:Nat):rd_T52 l (i:Int)=edA l i:=by rw [rd_T52,Int.toNat_natCast];rfl
theorem rd_nat (m:List Int) (i:Nat):rd m (i:Int)=va m i:=by rw [rd,Int.toNat_natCast];rfl
theorem meet_some {e f:Ed} (he:-1≤e.f0∧e.f0≤1099511627776∧0≤e.f1∧e.f1≤1099511627776) (hf:-1≤f.f0∧f.f0≤1099511627776∧0≤f.f1∧f.f1≤1099511627776):r08_meet.f e.f0 e.f1 e.f2 f.f0 f.f1 f.f2=some (meetP e f):=by
 rw [r08_meet.f,w_in (by omega) (by omega),w_in (by omega) (by omega),meetP]
 by_cases h:e.f0≤f.f0+f.f1
 ·rw [if_pos h,decide_eq_true h,Bool.true_and]
 rw [if_neg h,decide_eq_false h,Bool.false_and]
theorem stepM_len (l:List Ed) (i k:Nat) (m:List Int):(stepM l i k m).length=m.length:=by
 unfold stepM;split
 ·rw [List.length_set]
 rfl
theorem rowM_len (l:List Ed) (i:Nat):∀ d m,(rowM l i d m).length=m.length
 | 0,m=>rfl
 | d+1,m=>by rw [rowM,rowM_len l i d,stepM_len]
theorem turnM_len (l:List Ed):∀ d m,(turnM l d m).length=m.length
 | 0,m=>rfl
 | d+1,m=>by rw [turnM,turnM_len l d,rowM_len]
theorem marks_l3 {l:List Ed} {r:List Int} (hb:EdB l) (hn:l.length≤1099511627776) {t:Int} {i:Nat} (hi:i<l.length):∀ d m j,m.length=l.length→l.length - j=d→j≤l.length→Ev (fun k=>r08_marks.l2 k l (rowM l i d m) t ((i+1:Nat):Int)) r→Ev (fun k=>r08_marks.l3 k l m t (i:Int) (j:Int)) r:=by
 intro d
 induction d with
 | zero =>
  intro m j hm hd hj hk
  refine Ev.step (fun _=>r08_marks.l3.eq_2 ..) ?_
  simp only [if_neg (show ¬ (j:Int)<(l.length:Int) by omega),w_succ hi (show l.length≤4611686018427387904 by omega)]
  exact hk
 | succ d ih =>
  intro m j hm hd hj hk
  have hjl:j<l.length:=by omega
  refine Ev.step (fun _=>r08_marks.l3.eq_2 ..) ?_
  simp only [if_pos (show (j:Int)<(l.length:Int) by omega),if_pos (show 0≤(i:Int) by omega),if_pos (show (i:Int)<(l.length:Int) by omega),if_pos (show 0≤(j:Int) by omega),rdT_nat,rd_nat,Int.toNat_natCast]
  refine Ev.bind (Ev.none_of fun _=>meet_some (hb i) (hb j)) ?_
  have hj2:l.length - (d+1)=j:=by omega
  rw [rowM,hj2] at hk
  have key:=ih (stepM l i j m) (j+1) (by rw [stepM_len,hm]) (by omega) (by omega) hk
  unfold stepM at key
  by_cases hme:meetP (edA l i) (edA l j)=true
  ·rw [if_pos hme] at key
   simp only [if_pos hme,if_pos (show (i:Int)<(m.length:Int) by omega),if_pos (show (j:Int)<(m.length:Int) by omega),w_succ hjl (show l.length≤4611686018427387904 by omega)]
   exact key
  rw [if_neg hme] at key
  simp only [if_neg hme,w_succ hjl (show l.length≤4611686018427387904 by omega)]
  exact key
theorem marks_l2 {l:List Ed} {r:List Int} (hb:EdB l) (hn:l.length≤1099511627776) {t:Nat} (ht:t<l.length):∀ d m i,m.length=l.length→l.length - i=d→i≤l.length→Ev (fun k=>r08_marks.l1 k l (turnM l d m) ((t+1:Nat):Int)) r→Ev (fun k=>r08_marks.l2 k l m (t:Int) (i:Int)) r:=by
 intro d
 induction d with
 | zero =>
  intro m i hm hd hj hk
  refine Ev.step (fun _=>r08_marks.l2.eq_2 ..) ?_
  simp only [if_neg (show ¬ (i:Int)<(l.length:Int) by omega),w_succ ht (show l.length≤4611686018427387904 by omega)]
  exact hk
 | succ d ih =>
  intro m i hm hd hj hk
  have hil:i<l.length:=by omega
  refine Ev.step (fun _=>r08_marks.l2.eq_2 ..) ?_
  simp only [if_pos (show (i:Int)<(l.length:Int) by omega)]
  have hi2:l.length - (d+1)=i:=by omega
  rw [turnM,hi2] at hk
  exact marks_l3 hb hn hil l.length m 0 hm (by omega) (by omega) (ih _ (i+1) (by rw [rowM_len,hm]) (by omega) (by omega) hk)
theorem marks_l1 {l:List Ed} (hb:EdB l) (hn:l.length≤1099511627776):∀ d m t,m.length=l.length→l.length - t=d→t≤l.length→Ev (fun k=>r08_marks.l1 k l m (t:Int)) (turnsM l d m):=by
 intro d
 induction d with
 | zero =>
  intro m t hm hd hj
  refine Ev.step (fun _=>r08_marks.l1.eq_2 ..) ?_
  simp only [if_neg (show ¬ (t:Int)<(l.length:Int) by omega)]
  exact Ev.now _
 | succ d ih =>
  intro m t hm hd hj
  have htl:t<l.length:=by omega
  refine Ev.step (fun _=>r08_marks.l1.eq_2 ..) ?_
  simp only [if_pos (show (t:Int)<(l.length:Int) by omega)]
  rw [turnsM]
  exact marks_l2 hb hn htl l.length m 0 hm (by omega) (by omega) (ih _ (t+1) (by rw [turnM_len,hm]) (by omega) (by omega))
theorem marks_l0 {l:List Ed} (hb:EdB l) (hn:l.length≤1099511627776):∀ d i,l.length - i=d→i≤l.length→Ev (fun k=>r08_marks.l0 k l (idM i) (i:Int)) (marksM l):=by
 intro d
 induction d with
 | zero =>
  intro i hd hi
  obtain rfl:i=l.length:=by omega
  refine Ev.step (fun _=>r08_marks.l0.eq_2 ..) ?_
  simp only [if_neg (show ¬ (l.length:Int)<(l.length:Int) by omega)]
  exact marks_l1 hb hn l.length _ 0 (by rw [idM,List.length_map,List.length_range]) (by omega) (by omega)
 | succ d ih =>
  intro i hd hi
  have hil:i<l.length:=by omega
  refine Ev.step (fun _=>r08_marks.l0.eq_2 ..) ?_
  have e:idM i++[(i:Int)]=idM (i+1):=by rw [idM,idM,List.range_succ,List.map_append];rfl
  simp only [if_pos (show (i:Int)<(l.length:Int) by omega),if_pos (show (idM i).length<17592186044416 by rw [idM,List.length_map,List.length_range];omega),e,w_succ hil (show l.length≤4611686018427387904 by omega)]
  exact ih (i+1) (by omega) (by omega)
theorem marks_ev {l:List Ed} (hb:EdB l) (hn:l.length≤1099511627776):Ev (fun k=>r08_marks.f k l) (marksM l):=by
 unfold r08_marks.f
 exact marks_l0 hb hn _ 0 rfl (by omega)
end Go.Proofs.Ytnmphfelebkaiaa.Pr
-- shrunk
/-
A range over an iterator that keeps its state in one captured cell: the law of the caller, for a body that never leaves the loop and leaves that cell alone.
-/
namespace Go.Proofs.Ytnmphfelebkaiaa.Pr
open Go.RowKit Go.Proofs.YtnmphfelebkaiaaW.PrintWords Go.Proofs.YtnmphfelebkaiaaW.PrintLast
variable {F:Fence} {n:Nat} {P:Program}
def FreeC {β:Type} (B:Nat) (J:β→World→Prop):Prop :=
 ∀ s W W' row,J s W→W.grownBy W' row→(∀ r,row=some r→B≤r∧∃ cs t,W.heap[r]?=some (.cells cs t (0,0))∧(t=43∨t=46))→J s W'
def SeqOwn {α:Type} (F:Fence) (n:Nat) (P:Program) (g:Nat) (lb:Array Value) (encs:α→Array Value) (B:Nat) (xs:List α) (st E:World→Prop):Prop :=
 ∀ (l:Nat) (J:List α→World→Prop) (W:World),st W→FreeC B J→(∀ pre W1,J pre W1→E W1) →
  (∀ pre x rest W1,J pre W1→xs=pre++x :: rest→YieldAt F (n - 1) P l (encs x) W1 fun e W'=>e=.returned (.bool true)∧J (pre++[x]) W'∧W'.heap[B]?=W1.heap[B]?) →
  J [] W →
  CallsIn F n P g (#[.func (.yield l) #[] #[]]++lb) W fun e W'=>(∃ v,e=.returned v)∧J xs W'
theorem keepsObj {W W':World} {row:Option Nat} {l:Nat} {o:Obj} (h:W.heap[l]?=some o) (hg:W.grownBy W' row) (hr:∀ r,row=some r→∃ cs t,W.heap[r]?=some (.cells cs t (0,0))∧(t=43∨t=46))
  (ho:∀ cs t,o≠.cells cs t (0,0)):W'.heap[l]?=some o:=by
 refine (hg.block l (Array.getElem?_eq_some_iff.1 h).1 (fun e=>?_)).trans h
 obtain ⟨cs,t,hc,_⟩:=hr l e.symm
 rw [h] at hc
 injection hc with hc
 exact ho _ _ hc
theorem wpIn_rangeFunc_ownC {α:Type} {g:Operand} {ps:Array Tmp} {assign body:Code} {Q:Exit→Act→World→Prop} {a:Act} {w:World}
  (hro:F.round=none) (h1:1≤n) {gf:Nat} {lb:Array Value} (hg:a.eval g=.func (.func gf) #[] lb) (hFg:F.fn gf) (eg:∀ args w,(callFunc gf args).run P w=.ok (.enter gf args) w)
  {encs:α→Array Value} {B:Nat} {xs:List α} {st E:World→Prop} (hseq:SeqOwn F (n - 1) P gf lb encs B xs st E) (hB:B<w.heap.size) (hst:∀ W,W.heap[B]?=w.heap[B]?→st W) (hps:∀ x,(encs x).size=ps.size)
  (I:List α→World→Prop) (hI:OwnFrom w.heap.size I) (hIC:FreeC B I) (hIE:∀ pre W,I pre W→E W) (h0:I [] w) (lay:α→Obj) (a₁:α→Nat→Act)
  (hassign:∀ (l:Nat) (x:α) (W:World) (K:Act→World→Prop),K (a₁ x W.heap.size) (W.alloc (lay x)) →
   assign.wpIn (F.inRound l) (n - 1 - 1) P (Exit.then K (fun _ _ _=>False)) { tmps:=(ps.zip (encs x)).foldl (fun t (p,v)=>t.setIfInBounds p v) a.tmps,defers:=[] } W)
  (hbody:∀ (l:Nat) (pre:List α) (x:α) (rest:List α) (C:Nat) (W:World),I pre W→xs=pre++x :: rest→W.heap[C]?=some (lay x)→body.wpIn (F.inRound l) (n - 1 - 1) P (ownPostK (fun W W'=>W'.heap[B]?=W.heap[B]?) I (fun _ _ _=>False) (pre++[x]) W) (a₁ x C) W)
  (hdone:∀ (D:Nat) (W:World),w.heap.size≤D→I xs W→W.heap[D]?=some (.deferred (some []))→Q .normal { a with defers:={ target:=.collected D,args:=#[] } :: a.defers } W) :
  (Code.rangeFunc g ps assign body).wpIn F n P Q a w:=by
 refine wpIn_rangeFunc ?_
 intro fn hfn
 rw [hro]
 obtain ⟨rec,hrec⟩:∃ rec:LoopState→Option Code→Loop,rec=fun st pe=>{ state:=st,pending:=pe,fn,tmps:=a.tmps,params:=ps,assign,body,defers:=w.heap.size }:=⟨_,rfl⟩
 obtain ⟨W1,hW1⟩:∃ W1,(w.alloc (.deferred (some []))).alloc (.loop (rec .ready none))=W1:=⟨_,rfl⟩
 have hL1:W1.heap[w.heap.size+1]?=some (.loop (rec .ready none)):=by
  rw [← hW1];have:=World.alloc_heap_new (w.alloc (.deferred (some []))) (.loop (rec .ready none));rwa [World.size_alloc] at this
 have hK1:W1.heap[w.heap.size]?=some (.deferred (some [])):=by
  rw [← hW1];exact (Below.heap_alloc _ _ _ (by simp)).trans (World.alloc_heap_new w _)
 have hI1:I [] W1:=by rw [← hW1];exact hI.alloc _ (hI.alloc _ h0)
 have hB1:W1.heap[B]?=w.heap[B]?:=by
  rw [← hW1,Below.heap_alloc _ _ _ (by simp;omega),Below.heap_alloc _ _ _ hB]
 refine ⟨w.heap.size+1,[{ target:=.collected w.heap.size,args:=#[] }],W1,{ target:=.fn (.func gf) lb,args:=#[.func (.yield (w.heap.size+1)) #[] #[]] },W1,gf,
  #[.func (.yield (w.heap.size+1)) #[] #[]]++lb,W1,?_,?_,?_,?_,fun _=>h1,?_⟩
 ·rw [← hW1,hrec];exact run_enterLoop_outer _ _ _ _ _
 ·simp only [resolve,hg]
  simp [go_sem]
 ·intro f' hf';simp [Target.leads] at hf';subst hf';exact hFg
 ·simp [invoke,go_sem,eg]
 refine (hseq (w.heap.size+1)
  (fun pre W=>I pre W∧W.heap[w.heap.size+1]?=some (.loop (rec .ready none))∧W.heap[w.heap.size]?=some (.deferred (some [])))
  W1 (hst _ hB1)
  (fun pre A A' row hs hg hr=>⟨hIC _ _ _ _ hs.1 hg hr,keepsObj hs.2.1 hg (fun r e=>(hr r e).2) (fun _ _ h=>by cases h),keepsObj hs.2.2 hg (fun r e=>(hr r e).2) (fun _ _ h=>by cases h)⟩)
  (fun pre A hs=>hIE _ _ hs.1)
  ?_ ⟨hI1,hL1,hK1⟩).mono ?_
 rotate_left
 ·rintro e W2 ⟨⟨v,rfl⟩,hi,hl,hk⟩
  exact ⟨none,_,by have:=run_endLoop (P:=P) hl (by rw [hrec];simp);rw [hrec] at this;exact this,hdone _ _ (Nat.le_refl _) (hI.putObj _ hi (by omega) hl rfl) ((World.putObj_heap_other (by omega)).trans hk)⟩
 rintro pre x rest W ⟨hi,hl,hk⟩ hlen
 have hlt:w.heap.size+1<W.heap.size:=(Array.getElem?_eq_some_iff.1 hl).1
 have hltB:B<W.heap.size:=by omega
 obtain ⟨WA,hWA⟩:∃ WA,WA=W.alloc (lay x):=⟨_,rfl⟩
 have hiA:I pre WA:=by rw [hWA];exact hI.alloc _ hi
 have hlA:WA.heap[w.heap.size+1]?=some (.loop (rec .ready none)):=by rw [hWA,Below.heap_alloc _ _ _ hlt];exact hl
 have hkA:WA.heap[w.heap.size]?=some (.deferred (some [])):=by rw [hWA,Below.heap_alloc _ _ _ (by omega)];exact hk
 have hBA:WA.heap[B]?=W.heap[B]?:=by rw [hWA,Below.heap_alloc _ _ _ hltB]
 have hCA:WA.heap[W.heap.size]?=some (lay x):=by rw [hWA];exact World.alloc_heap_new W _
 have hne:w.heap.size+1≠W.heap.size:=by omega
 have hy:=run_yield (P:=P) (args:=encs x) hl (by rw [hrec];exact hps x)
 rw [hrec] at hy
 refine ⟨fn,_,assign,body,hy,roundIn_of_wpIn hfn (hassign _ x W _ ?_)⟩
 rw [← hWA]
 refine ⟨_,run_beginRound hlA (by rw [hrec]),?_⟩
 have hl2:(WA.putObj (w.heap.size+1) (.loop { rec .ready none with state:=.busy })).heap[w.heap.size+1]?=some (.loop { rec .ready none with state:=.busy }):=World.putObj_heap_same (Array.getElem?_eq_some_iff.1 hlA).1
 have hk2:(WA.putObj (w.heap.size+1) (.loop { rec .ready none with state:=.busy })).heap[w.heap.size]?=some (.deferred (some [])):=(World.putObj_heap_other (by omega)).trans hkA
 refine wpIn_mono (hbody _ pre x rest W.heap.size _ (hI.putObj _ hiA (by omega) hlA rfl) hlen ((World.putObj_heap_other (by omega)).trans hCA)) ?_
 have fin:∀ (W3:World),KeepsOthers (WA.putObj (w.heap.size+1) (.loop { rec .ready none with state:=.busy })) W3 →
   (Instr.endRound (w.heap.size+1) none).run P W3=.ok (.bool true) (W3.putObj (w.heap.size+1) (.loop (rec .ready none))) ∧
   W3.heap[w.heap.size+1]?=some (.loop { rec .ready none with state:=.busy }) ∧
   (W3.putObj (w.heap.size+1) (.loop (rec .ready none))).heap[w.heap.size+1]?=some (.loop (rec .ready none)) ∧
   (W3.putObj (w.heap.size+1) (.loop (rec .ready none))).heap[w.heap.size]?=some (.deferred (some [])):=fun W3 hk3=>by
  have hl3:=hk3.same _ _ hl2 rfl
  have:=run_endRound (P:=P) none hl3
  rw [hrec] at this ⊢
  exact ⟨this,by rw [hrec] at hl3;exact hl3,World.putObj_heap_same (Array.getElem?_eq_some_iff.1 hl3).1,(World.putObj_heap_other (by omega)).trans (hk3.same _ _ hk2 rfl)⟩
 rintro e a3 W3 hp
 cases e with
 | normal =>
  obtain ⟨hk3,hkp3,hi3⟩:=hp
  obtain ⟨hr,hl3,hl4,hk4⟩:=fin W3 hk3
  exact ⟨_,_,hr,rfl,⟨hI.putObj _ hi3 (by omega) hl3 rfl,hl4,hk4⟩,(World.putObj_heap_other (by omega)).trans (hkp3.trans ((World.putObj_heap_other (by omega)).trans hBA))⟩
 | ret=>exact hp.2.elim
 | exit id=>exact hp.2.elim
 | goto t=>exact hp.2.elim
 | panic ch=>exact hp.elim
 | outgrown=>exact hp.elim
theorem grown_set (W:World) (b j:Nat) (v:Value):W.grownBy (W.setCell ⟨b,j,none⟩ v) (some b) :=
 ⟨rfl,rfl,rfl,by simp [World.setCell],fun k _ hk=>Below.heap_setCell _ _ _ _ (fun e=>hk (by rw [e]))⟩
theorem grown_trans {W W1 W2:World} {row:Option Nat} (h:W.grownBy W1 row) (k:W1.grownBy W2 row):W.grownBy W2 row :=
 ⟨k.os.trans h.os,k.tape.trans h.tape,k.output.trans h.output,Nat.le_trans h.size k.size,fun i hi hn=>(k.block i (Nat.lt_of_lt_of_le hi h.size) hn).trans (h.block i hi hn)⟩
theorem wpOpIn_of_wpOp {P:Program} {ops:Array Oper} {Q:Exit→Act→World→Prop} {l n i:Nat} {K K':Act→World→Prop} {a:Act} {w:World} (hQ:¬ LetsOut Q) (hd:∀ o ∈ ops,∀ c,o.op≠.defer c) (hK:∀ a w,K a w→K' a w)
  (h:wpOp P ops Q i K a w):wpOpIn (Fence.wide.inRound l) n P ops Q i K' a w:=by
 unfold wpOp at h
 unfold wpOpIn
 cases ho:ops[i]? with
 | none=>rw [ho] at h;exact hK _ _ h
 | some o =>
  rw [ho] at h
  simp only at h ⊢
  have hnd:=hd o (by obtain ⟨hi,e⟩:=Array.getElem?_eq_some_iff.1 ho;exact e ▸ Array.getElem_mem hi)
  by_cases hw:Region.wanted o (yielded ops a.tmps)=true
  rotate_left
  ·rw [if_neg hw] at h ⊢
   exact ⟨fun _ _=>trivial,hK _ _ h⟩
  rw [if_pos hw] at h ⊢
  have h1:o.wp P a w K Q:=by
   rcases h with h|⟨_,h⟩
   ·exact h
   exact absurd h hQ
  unfold Oper.wp at h1
  refine ⟨fun _ _=>trivial,?_⟩
  rw [Oper.semAt_eq _ _ _ hnd]
  generalize (execOp a.eval o).run P w=r at *
  cases r with
  | ok x w' =>
   cases x<;>simp only [Oper.upon,Oper.uponIn] at h1 ⊢<;>first|exact hK _ _ h1|skip
   ·exact ⟨by simp [Fence.inRound,Fence.wide],CallsIn.inRound l ((callsIn_wide.2 h1).mono (fun e w'' he=>by cases e<;>first|exact hK _ _ he|exact he))⟩
   refine ⟨by simp [Fence.inRound,Fence.wide],?_⟩
   exact fun c cs _=>let ⟨v,w2,r,s⟩:=h1 c cs;⟨v,w2,hK _ _ r,stepsIn_wide.2 s⟩
  | halt x w'=>cases x<;>simp only [Oper.upon,Oper.uponIn] at h1 ⊢<;>exact h1
theorem wpAnyIn_of_wpAny {P:Program} {ops:Array Oper} {md:Region.Mode} {Q:Exit→Act→World→Prop} {l n:Nat} (hQ:¬ LetsOut Q) (hd:∀ o ∈ ops,∀ c,o.op≠.defer c):∀ (fuel:Nat) (listed:Array Bool) (a:Act) (w:World),wpAny P md ops Q fuel listed a w→wpAnyIn (Fence.wide.inRound l) n P md ops Q fuel listed a w
 | 0,_,_,_,h=>h
 | fuel+1,listed,a,w,h=>⟨h.1,fun i hi=>wpOpIn_of_wpOp hQ hd (fun a w=>wpAnyIn_of_wpAny hQ hd fuel _ a w) (h.2 i hi)⟩
theorem startR_ {P:Program} {ops:Array Oper} {Q:Exit→Act→World→Prop} {S:World→Prop} {ds:List Nat} {l id n m:Nat} {a:Act} {w:World} (hQ:¬ LetsOut Q) (hd:∀ o ∈ ops,∀ c,o.op≠.defer c) (ls:Array Bool) (hm:P.follows .mixedOrders=true) (hn:ops.size=n) (hl:Array.replicate n false=ls) (hS:S w.drew)
  (h:S w.drew→wpAnyLast P .any ops Q S ds n ls a w.drew):(Code.region id ops true).wpIn (Fence.wide.inRound l) m P Q a w:=by
 subst hn
 subst hl
 exact wpIn_region_any hm (wpAnyIn_of_wpAny hQ hd _ _ _ _ (wpAny_of_last _ _ _ _ (h hS)))
end Go.Proofs.Ytnmphfelebkaiaa.Pr
-- shrunk
/-
Contracts of slices.Clone, slices.Grow (of a nil slice) and slices.Concat at []string: what they answer, for lists of at most 2^42 elements.
-/
namespace Go.Proofs.Ytnmphfelebkaiaa.Pr
open Go.RowKit Go.Proofs.YtnmphfelebkaiaaW.PrintWords Go.Proofs.YtnmphfelebkaiaaW.PrintLast Go.Proofs.YtnmphfelebkaiaaW.PrintMore
theorem ginfoStr:(Try.prog.info? 9).map (fun i=>(i.zero,i.size,i.bytes))=some (some (.string ⟨#[]⟩),1,16):=by kernel_rfl
def slices_Clone_string_string.f (l0:List ByteArray):Option (List ByteArray):=if l0.length≤4398046511104 then some l0 else none
set_option maxHeartbeats 400000 in
theorem slices_Clone_string_string.calls (A0:Option Addr) (c0:Nat) (l0:List ByteArray) (r:List ByteArray) (w:World) (hr0:Kd.C Kd.string w A0 l0.length l0) (hc0:l0.length≤c0) (h:slices_Clone_string_string.f l0=some r) :
  Calls Try.prog 31 #[.slice A0 l0.length c0] w fun e w'=>∃ v0_:Value,e=.returned (v0_)∧Kd.R Kd.string 9 w' w.heap.size (fun _=>True) v0_ r∧Below w.heap.size w w':=by
 unfold slices_Clone_string_string.f at h
 by_cases hl:l0.length≤4398046511104
 rotate_left
 ·rw [if_neg hl] at h;cases h
 rw [if_pos hl] at h
 obtain rfl:=Option.some.inj h
 have HR:=Aside0.mk hr0
 have HC:=Aside0.mk hc0
 clear h hr0 hc0
 rcases A0 with _|ad
 rotate_left
 ·have he:=fun W=>Lib.run_eql_slice_nil (P:=Try.prog) W 22 9 (some ad) l0.length c0 0 0 Try.underlying22
  go_enter Try.func31,Try.ntmps31
  have HB:=Aside0.mk (Below.refl w.heap.size w)
  go_wp2_with (first|((with_reducible refine gate_dst (N:=5) rfl ?_);(try (refine gate_guard (by rfl) ?_;dsimp only));refine Kd.R_lit Kd.string w.heap.size 9 ?hg (N:=5) ?hd (xs:=([]:List ByteArray)) (inner:=[]) (ok:=fun _=>True) (okp:=fun _=>True) ?hr ?hp (fun _ hk=>hk) trivial HB.out (Nat.le_refl _) (by simp) ?_;(case hd=>rfl);(case hg=>rfl);(case hr=>first|(go_simp;done)|(go_simp;rfl));(case hp=>exact (Reps.none _ _));intro v1 w1 ho hb hg_ hnew_;clear hg_ hnew_;have HO:=Aside0.mk ho;have HBb:=Aside0.mk hb;clear ho hb)|(at_builtin;refine Kd.R_append_rows Kd.string (w0:=w) w.heap.size rfl (.tmp 5) (.tmp 6) 22 9 (.string ⟨#[]⟩) 16 rfl Try.underlying22 ginfoStr rfl (by decide) (by omega) v1 [] l0 _ _ _ (fun _=>True) (fun _=>False) rfl rfl HO.out (Kd.C_below HR.out HBb.out) (fun _ _ h=>h) (fun _ h=>h.elim) (fun _ _=>trivial) HBb.out HBb.out.size (by simp;omega) ?_;intro v2 w2 ho hb hg hat;have HO2:=Aside0.mk ho;have HB2:=Aside0.mk hb;clear ho hb hg hat))
  go_ret
  exact ⟨_,rfl,HO2.out,HB2.out⟩
 have he:=fun W=>Lib.run_eql_slice_nil (P:=Try.prog) W 22 9 none l0.length c0 0 0 Try.underlying22
 have h0:l0=[]:=by
  rcases Nat.eq_zero_or_pos l0.length with h0|h0
  ·exact List.eq_nil_of_length_eq_zero h0
  obtain ⟨ad,h,_⟩:=HR.out.2.2 h0
  cases h
 have H0:=Aside0.mk h0
 clear h0
 go_enter Try.func31,Try.ntmps31
 go_wp2
 go_ret
 refine ⟨_,rfl,?_,Below.refl _ _⟩
 rw [H0.out]
 exact Kd.R_nil _ _ _ _ _
end Go.Proofs.Ytnmphfelebkaiaa.Pr
-- shrunk
/-
A list of edits of the call's own, of which the last one is changed: what is known of memory then.
-/
namespace Go.Proofs.Ytnmphfelebkaiaa.Pr
open Go.RowKit Go.Proofs.YtnmphfelebkaiaaW.PrintWords Go.Proofs.YtnmphfelebkaiaaW.PrintLast Go.Proofs.YtnmphfelebkaiaaW.PrintMore
theorem edLast_eq (out:List Ed) (j:Int) (hj:j.toNat=out.length - 1):out.getD j.toNat z52=edLast out:=by rw [hj];rfl
theorem own_del {W:World} {base g cap:Nat} {out:List Ed} {j:Int} (hS:Kd.S k52 52 W base (fun _=>True) (.slice (some ⟨g,0,none⟩) out.length cap) out) (hne:out≠[]) (h0:0≤j) (hj:j.toNat=out.length - 1) :
  W.cell? ⟨g,j.toNat * 3+1,none⟩=some (.int .i64 (edLast out).f1)∧W.frozen? ⟨g,j.toNat * 3+1,none⟩=false ∧
   Kd.S k52 52 (W.setCell ⟨g,j.toNat * 3+1,none⟩ (.int .i64 ((edLast out).f1+1))) base (fun _=>True) (.slice (some ⟨g,0,none⟩) out.length cap) (addDel out) ∧
   W.grownBy (W.setCell ⟨g,j.toNat * 3+1,none⟩ (.int .i64 ((edLast out).f1+1))) (some g):=by
 have hl:0<out.length:=List.length_pos_iff.2 hne
 have h1:j<(out.length:Int):=by omega
 have hS':Kd.S k52 52 W base (fun k=>True∧¬ False) (.slice (some ⟨g,0,none⟩) out.length cap) out:=Kd.S_mono hS (fun _ _=>⟨trivial,id⟩)
 obtain ⟨oki,c,hcl,hM,hcc,hfr,hoki,hH⟩:=Kd.S_elem hS' z52 j h0 h1
 rw [edLast_eq out j hj] at hM
 obtain ⟨vi,rfl,hvi⟩:=k52_openM hM
 have hc1:=hcc 1 _ rfl
 obtain ⟨h2,h3⟩:=Kd.S_seg (okg:=fun _=>False) hH h0 h1 (seg:=[.int .i64 ((edLast out).f1+1)]) (j:=1) (show 1+1≤3 by decide) (x':=⟨(edLast out).f0,(edLast out).f1+1,(edLast out).f2⟩)
  (k52_mkM W base oki ⟨(edLast out).f0,(edLast out).f1+1,(edLast out).f2⟩ hvi) (fun k hk=>.inl hk) (fun k hk=>hk.elim)
 exact ⟨hc1,hfr 1,by unfold addDel;rw [← hj];exact Kd.S_mono h2 (fun _ _=>trivial),h3⟩
theorem own_ins {W:World} {base g cap:Nat} {out:List Ed} {j:Int} (s:ByteArray) (hS:Kd.S k52 52 W base (fun _=>True) (.slice (some ⟨g,0,none⟩) out.length cap) out) (hne:out≠[]) (h0:0≤j) (hj:j.toNat=out.length - 1) :
  ∃ (vi:Value) (Ai:Option Addr) (ci:Nat) (oki:Nat→Prop),vi=.slice Ai (edLast out).f2.length ci∧W.cell? ⟨g,j.toNat * 3+2,none⟩=some vi∧Kd.R Kd.string 9 W base oki vi (edLast out).f2∧(∀ k,W.heap.size≤k→oki k)∧(∀ k,vi.ownBlock=some k→k≠g) ∧
   ∀ (W2 w1:World) (v1:Value),Below W.heap.size W W2→W2.grownBy w1 vi.ownBlock→Kd.R Kd.string 9 w1 base oki v1 ((edLast out).f2++[s]) →
    w1.cell? ⟨g,j.toNat * 3+2,none⟩=some vi∧w1.frozen? ⟨g,j.toNat * 3+2,none⟩=false ∧
    Kd.S k52 52 (w1.setCell ⟨g,j.toNat * 3+2,none⟩ v1) base (fun _=>True) (.slice (some ⟨g,0,none⟩) out.length cap) (addIns s out)∧w1.grownBy (w1.setCell ⟨g,j.toNat * 3+2,none⟩ v1) (some g)∧(∃ cells,w1.heap[g]?=some (.cells cells 52 (0,0))):=by
 have hl:0<out.length:=List.length_pos_iff.2 hne
 have h1:j<(out.length:Int):=by omega
 obtain ⟨oki,c,hcl,hM,hcc,hfr,hoki,hH⟩:=Kd.S_elem hS z52 j h0 h1
 rw [edLast_eq out j hj] at hM
 obtain ⟨vi,rfl,hvi⟩:=k52_openM hM
 have hc2:=hcc 2 _ rfl
 obtain ⟨g',cap',e',_,hlt,cells0,hg0⟩:=Kd.S_form hS hl
 have hgg:g'=g:=by injection e' with e' _ _;injection e' with e';injection e' with e';exact e'.symm
 subst hgg
 have hH2:=Kd.H_widen hH
 have hvi2:Kd.R Kd.string 9 W base (fun k=>oki k∨True∧W.heap.size≤k) vi (edLast out).f2:=Kd.R_mono hvi (fun k hk=>.inl hk)
 obtain ⟨Ai,ci,evi⟩:=Kd.R_slice hvi
 refine ⟨vi,Ai,ci,fun k=>oki k∨True∧W.heap.size≤k,evi,hc2,hvi2,fun k hk=>.inr ⟨trivial,hk⟩,fun k hk=>(hoki k (hvi.1 k hk)).2,fun W2 w1 v1 hb hg hR=>?_⟩
 have hne2:∀ k,vi.ownBlock=some k→k≠g':=fun k hk=>(hoki k (hvi.1 k hk)).2
 have hgb:¬ vi.ownBlock=some g':=fun h=>hne2 _ h rfl
 have hlt2:g'<W2.heap.size:=Nat.lt_of_lt_of_le hlt hb.size
 have hcell:w1.heap[g']?=W.heap[g']?:=(hg.block g' hlt2 (fun e=>hgb e.symm)).trans (hb.block g' hlt)
 have hH3:=Kd.H_grown (Kd.H_below hH2 hb) hg (fun k hk=>.inl (hvi.1 k hk))
 obtain ⟨h4,h5⟩:=Kd.H_seg hH3 h0 h1 (seg:=[v1]) (j:=2) (show 2+1≤3 by decide) (by intro q hq;simp at hq;subst hq;exact (Kd.R_val hR).2)
 have hokne:∀ k,(oki k∨True∧W.heap.size≤k)→k≠g':=by
  rintro k (hk|hk)
  ·exact (hoki k hk).2
  omega
 refine ⟨by rw [← hc2];exact World.cell?_of_block hcell,by rw [← hfr 2];exact World.frozen?_of_block hcell,?_,h5,⟨cells0,hcell.trans hg0⟩⟩
 unfold addIns
 rw [← hj]
 refine Kd.H_back h4 (okp:=fun k=>oki k∨True∧W.heap.size≤k) ?_ (fun _ hk=>hk)
 exact k52_mkM _ base _ ⟨(edLast out).f0,(edLast out).f1,(edLast out).f2++[s]⟩ (Kd.R_far hR (p:=⟨g',j.toNat * 3+2,none⟩) hokne v1)
end Go.Proofs.Ytnmphfelebkaiaa.Pr
-- shrunk
