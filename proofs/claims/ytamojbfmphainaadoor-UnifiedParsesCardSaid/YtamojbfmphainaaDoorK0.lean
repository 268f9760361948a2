/-
Several plain texts in one.
-/
import Derived.Test.YtamojbfmphainaaDoorProg
import Derived.Below
import Derived.Deep.Draws
import Derived.Deep.AppendLies
import Derived.Maps.AppendAt
import Derived.OwnWalk
import Derived.Laws.BytesArg
import Derived.Laws.MakeOwn
import Derived.Laws.OwnMore
import Derived.Deep.OwnRows
import Derived.Tactics
import Derived.Lib.ConvBytes
import Derived.Laws.Slices
import Derived.WalkKit
import Derived.KernelRfl
import Derived.RowKit3
import Derived.Deep.LoopGhost
import Derived.Deep.QuietTactic
import Derived.BigQuiet
import Derived.WideLaws
import Derived.Deep.DeepCutAuto
import Derived.Deep.CutBlock
import Derived.Deep.RegionHeld3
import Derived.Laws.Rows
import Derived.Lib.AppendStr
import Derived.ArgAppend
import Derived.Laws.IdiomCopy
import Derived.OrdersHeld
import Derived.Laws.BitsLemmas
import Derived.RowKit
import Derived.Laws.Runes
import Derived.Test.YtamojbfmphainaaDoorWWords
import Derived.Test.YtamojbfmphainaaDoorWLast
import Derived.Test.YtamojbfmphainaaDoorWTab
import Derived.Test.YtamojbfmphainaaDoorWFour
import Derived.Test.YtamojbfmphainaaDoorWQPut
import Derived.Test.YtamojbfmphainaaDoorWApart
import Derived.Test.YtamojbfmphainaaDoorWArr
import Derived.Test.YtamojbfmphainaaDoorWZeros
import Derived.Test.YtamojbfmphainaaDoorWFoot
import Derived.Test.YtamojbfmphainaaDoorWKept
import Derived.Test.YtamojbfmphainaaDoorWShare
import Derived.Test.YtamojbfmphainaaDoorWN
import Derived.Test.YtamojbfmphainaaDoorWFootNe
import Derived.Test.YtamojbfmphainaaDoorWAt
import Derived.Test.YtamojbfmphainaaDoorWEqStruct
import Derived.Test.YtamojbfmphainaaDoorWRepsOne
import Derived.Test.YtamojbfmphainaaDoorWInv
import Derived.Test.YtamojbfmphainaaDoorWInvWords
import Derived.Test.YtamojbfmphainaaDoorWGuard
import Derived.Test.YtamojbfmphainaaDoorWNEv
import Derived.Test.YtamojbfmphainaaDoorWMore
import Derived.IntWalk
import Derived.Deep.DeepMust
import Derived.Laws.EntriesVeiled
import Derived.Test.YtamojbfmphainaaDoorGShelf
import Derived.Test.YtamojbfmphainaaDoorRows
import Derived.Lib.LaidTab
import Derived.Stop.LaidErr
import Derived.LaidSub
import Derived.Lay
import Derived.ShapedOpen
import Derived.RangeFuncBox
import Derived.RangeFuncLeaves
import Derived.Shelf.Abstract
import Derived.OwnWalkIn
import Derived.TacticsInMore
import Derived.LoopNIn
import Derived.LoopIn
import Derived.Lib.SlicesS
import Derived.Lib.ItoaLen
import Derived.Lib.AppendIntMem
import Derived.Lib.QuietBelow
set_option linter.unusedVariables false
set_option linter.unusedSimpArgs false
-- written by a program of this session's (a turned copy of the kit's printer); Lean checks it
namespace Go.Proofs.YtamojbfmphainaaDoor.Pr
open Go.RowKit Go.Proofs.YtamojbfmphainaaDoorW.PrintWords Go.Proofs.YtamojbfmphainaaDoorW.PrintLast Go.Proofs.YtamojbfmphainaaDoorW.PrintMore
attribute [local go_sem] max2_int min2_int max_two min_two max_three min_three max_four min_four   -- for this text's walks alone



def errW:Option Int→Value
 | none=>.nilIface
 | some c=>.iface 0 (.int .i64 c)
theorem errW_none:errW none=.nilIface:=rfl
theorem errW_some (c:Int):errW (some c)=.iface 0 (.int .i64 c):=rfl

theorem info3:(Tryd.prog.info? 3).map (fun i=>(i.zero,i.size,i.bytes))=some (some (.int .i64 0),1,8):=by kernel_rfl
theorem info9:(Tryd.prog.info? 9).map (fun i=>(i.zero,i.size,i.bytes))=some (some (.string ⟨#[]⟩),1,16):=by kernel_rfl
theorem info41:(Tryd.prog.info? 41).map (fun i=>(i.zero,i.size,i.bytes))=some (some (.agg #[(.int .i64 0),(.int .i64 0),(.int .i64 0),(.int .i64 0),(.slice none 0 0)]),5,56):=by kernel_rfl
structure S41 where
 f0:Int
 f1:Int
 f2:Int
 f3:Int
 f4:(List ByteArray)
def z41:S41:=⟨(0:Int),(0:Int),(0:Int),(0:Int),([]:List ByteArray)⟩
def k41:Kd S41:=Kd.iso (Kd.pair (Kd.int .i64) (Kd.pair (Kd.int .i64) (Kd.pair (Kd.int .i64) (Kd.pair (Kd.int .i64) (Kd.slice 9 Kd.string))))) (fun x:S41=>(x.f0,x.f1,x.f2,x.f3,x.f4))
theorem k41_open {w:World} {x:S41} {cs:List Value} (h:k41.K w x cs):∃ A4 c4,cs=[.int .i64 x.f0,.int .i64 x.f1,.int .i64 x.f2,.int .i64 x.f3,.slice A4 x.f4.length c4]∧x.f4.length≤c4∧Kd.string.C w A4 x.f4.length x.f4:=by
 obtain ⟨_,_,rfl,rfl,⟨_,_,rfl,rfl,⟨_,_,rfl,rfl,⟨_,_,rfl,rfl,⟨A4,c4,rfl,l4,g4⟩⟩⟩⟩⟩:=h
 exact ⟨A4,c4,rfl,l4,g4⟩
theorem k41_openM {w:World} {base:Nat} {ok:Nat→Prop} {x:S41} {cs:List Value} (h:k41.M w base ok x cs):∃ v4,cs=[.int .i64 x.f0,.int .i64 x.f1,.int .i64 x.f2,.int .i64 x.f3,v4]∧Kd.string.R 9 w base ok v4 x.f4:=by
 obtain ⟨_,_,rfl,rfl,⟨_,_,rfl,rfl,⟨_,_,rfl,rfl,⟨_,_,rfl,rfl,⟨v4,rfl,g4⟩⟩⟩⟩⟩:=h
 exact ⟨v4,rfl,g4⟩
theorem k41_mk (w:World) (x:S41) {A4:Option Addr} {c4:Nat} (l4:x.f4.length≤c4) (g4:Kd.string.C w A4 x.f4.length x.f4):k41.K w x [.int .i64 x.f0,.int .i64 x.f1,.int .i64 x.f2,.int .i64 x.f3,.slice A4 x.f4.length c4]:=⟨[.int .i64 x.f0],[.int .i64 x.f1,.int .i64 x.f2,.int .i64 x.f3,.slice A4 x.f4.length c4],rfl,rfl,⟨[.int .i64 x.f1],[.int .i64 x.f2,.int .i64 x.f3,.slice A4 x.f4.length c4],rfl,rfl,⟨[.int .i64 x.f2],[.int .i64 x.f3,.slice A4 x.f4.length c4],rfl,rfl,⟨[.int .i64 x.f3],[.slice A4 x.f4.length c4],rfl,rfl,⟨A4,c4,rfl,l4,g4⟩⟩⟩⟩⟩
theorem k41_mkM (w:World) (base:Nat) (ok:Nat→Prop) (x:S41) {v4:Value} (g4:Kd.string.R 9 w base ok v4 x.f4):k41.M w base ok x [.int .i64 x.f0,.int .i64 x.f1,.int .i64 x.f2,.int .i64 x.f3,v4]:=⟨[.int .i64 x.f0],[.int .i64 x.f1,.int .i64 x.f2,.int .i64 x.f3,v4],rfl,rfl,⟨[.int .i64 x.f1],[.int .i64 x.f2,.int .i64 x.f3,v4],rfl,rfl,⟨[.int .i64 x.f2],[.int .i64 x.f3,v4],rfl,rfl,⟨[.int .i64 x.f3],[v4],rfl,rfl,⟨v4,rfl,g4⟩⟩⟩⟩⟩
def rd_T41 (xs:List S41) (i:Int):S41:=xs.getD i.toNat z41
theorem at_T41 {w:World} {A:Option Addr} {n:Nat} {xs:List S41} (h:Kd.C k41 w A n xs) (i:Int) (h0:0≤i) (h1:i<n):∃ ad A4 c4,A=some ad∧w.cell? (ad.add (i.toNat * 5))=some (.int .i64 (rd_T41 xs i).f0)∧w.cell? ⟨(ad.add (i.toNat * 5)).block,(ad.add (i.toNat * 5)).off+1,none⟩=some (.int .i64 (rd_T41 xs i).f1)∧w.cell? ⟨(ad.add (i.toNat * 5)).block,(ad.add (i.toNat * 5)).off+2,none⟩=some (.int .i64 (rd_T41 xs i).f2)∧w.cell? ⟨(ad.add (i.toNat * 5)).block,(ad.add (i.toNat * 5)).off+3,none⟩=some (.int .i64 (rd_T41 xs i).f3)∧w.cell? ⟨(ad.add (i.toNat * 5)).block,(ad.add (i.toNat * 5)).off+4,none⟩=some (.slice A4 (rd_T41 xs i).f4.length c4)∧(rd_T41 xs i).f4.length≤c4∧Kd.string.C w A4 (rd_T41 xs i).f4.length (rd_T41 xs i).f4:=by
 obtain ⟨ad,c,e,_,hK,hc0⟩:=Kd.C_get h z41 i h0 h1
 have hc:∀ j u,c[j]?=some u→w.cell? (ad.add (i.toNat * 5+j))=some u:=hc0
 obtain ⟨A4,c4,rfl,l4,g4⟩:=k41_open hK
 exact ⟨ad,A4,c4,e,hc 0 _ rfl,by rw [← add_field _ _ 1 (by omega)];exact hc 1 _ rfl,by rw [← add_field _ _ 2 (by omega)];exact hc 2 _ rfl,by rw [← add_field _ _ 3 (by omega)];exact hc 3 _ rfl,by rw [← add_field _ _ 4 (by omega)];exact hc 4 _ rfl,l4,g4⟩

structure S72 where
 f0:Int
 f1:Int
 f2:(List ByteArray)
def z72:S72:=⟨(0:Int),(0:Int),([]:List ByteArray)⟩
end Go.Proofs.YtamojbfmphainaaDoor.Pr
-- shrunk
/-
What the statement's listed variables are while a call runs; unified's reader in memory; its next.
-/
namespace Go.Proofs.YtamojbfmphainaaDoor.Pr
open Go.RowKit Go.Proofs.YtamojbfmphainaaDoorW.PrintWords Go.Proofs.YtamojbfmphainaaDoorW.PrintLast Go.Proofs.YtamojbfmphainaaDoorW.PrintMore
structure LaidU (w:World):Prop where
 tab : Lib.TabIs Tryd.prog w "internal/strconv.uint64pow10" .u64 Lib.pow10Tab
 syn : ∃ tp p, w.var? Tryd.prog "strconv.ErrSyntax" = some #[.iface tp p]
 rng : ∃ tp p, w.var? Tryd.prog "strconv.ErrRange" = some #[.iface tp p]
 mx:∃ m,w.cell? ⟨0,0,none⟩=some (.int .i64 m)
theorem var_below {P:Program} {w w':World} {n:String} {cs:Array Value} (h:w.var? P n=some cs) (hb:Below w.heap.size w w'):w'.var? P n=some cs:=by
 unfold World.var? at h ⊢
 obtain ⟨g,hg,h⟩:=Option.bind_eq_some_iff.1 h
 rw [hg,Option.bind_some]
 have hlt:g<w.heap.size:=by
  rcases hh:w.heap[g]? with _|o
  ·rw [hh] at h;cases h
  ·exact (Array.getElem?_eq_some_iff.1 hh).1
 rw [hb.block g hlt]
 exact h
theorem LaidU.below {w w':World} (h:LaidU w) (hb:Below w.heap.size w w'):LaidU w':=by
 obtain ⟨h1,⟨t2,p2,h2⟩,⟨t3,p3,h3⟩,⟨m,h4⟩⟩:=h
 exact ⟨var_below h1 hb,⟨t2,p2,var_below h2 hb⟩,⟨t3,p3,var_below h3 hb⟩,⟨m,pw_cell_below hb h4⟩⟩
def Keep1 (w:World) (g:Nat) (wr:World):Prop:=KeepBut w wr g none∧Below 0 w wr
theorem Keep1.refl (w:World) (g:Nat):Keep1 w g w:=⟨KeepBut.refl _ _ _,Below.refl _ _⟩
theorem keep_below' {w W w1:World} {g B:Nat} (h:Keep1 w g W) (hb:Below B W w1) (hB:w.heap.size≤B):Keep1 w g w1 :=
 ⟨⟨Nat.le_trans h.1.1 hb.size,fun i hi hg hr=>(hb.block i (Nat.lt_of_lt_of_le hi hB)).trans (h.1.2 i hi hg hr)⟩,h.2.trans (hb.mono (Nat.zero_le _))⟩
theorem keep_grown {w W w1:World} {g:Nat} {row:Option Nat} (h:Keep1 w g W) (hg:W.grownBy w1 row) (hrow:∀ k,row=some k→w.heap.size≤k):Keep1 w g w1 :=
 ⟨⟨Nat.le_trans h.1.1 hg.size,fun i hi hn hr=>(hg.block i (Nat.lt_of_lt_of_le hi h.1.1) (fun e=>by have:=hrow i e.symm;omega)).trans (h.1.2 i hi hn hr)⟩,h.2.grown hg (Nat.zero_le _) (fun _ _=>Nat.zero_le _)⟩
theorem Keep1.set_ {w W:World} {g:Nat} (h:Keep1 w g W) (j:Nat) (u:Value):Keep1 w g (W.setCell ⟨g,j,none⟩ u):=⟨h.1.set_ j u,h.2.setCell (p:=⟨g,j,none⟩) (Nat.zero_le _) u⟩
theorem Keep1.below {w0 w W:World} {g:Nat} (h0:Below w0.heap.size w0 w) (h:Keep1 w g W) (hg:w0.heap.size≤g):Below w0.heap.size w0 W :=
 ⟨h.2.os.trans h0.os,h.2.tape.trans h0.tape,h.2.output.trans h0.output,Nat.le_trans h0.size h.1.1,fun k hk=>(h.1.2 k (Nat.lt_of_lt_of_le hk h0.size) (by omega) (by simp)).trans (h0.block k hk)⟩
structure RBox (w:World) (g:Nat) (v:Value) (an bn:Int) (bare:Bool) (fn:Nat) (l:List S41) (wr:World):Prop where
 box:wr.heap[g]?=some (.cells #[v,.int .i64 an,.int .i64 bn,.bool bare,.func (.func fn) #[.pointer (some ⟨g,0,none⟩)] #[]] 57 (0,0))
 row:Kd.S k41 41 wr w.heap.size (fun _=>True) v l
 bel:Keep1 w g wr
theorem RBox.below {w:World} {g:Nat} {v:Value} {an bn:Int} {bare:Bool} {fn:Nat} {l:List S41} {wr w1:World} (h:RBox w g v an bn bare fn l wr) (hb:Below wr.heap.size wr w1):RBox w g v an bn bare fn l w1 :=
 ⟨blk_below h.box hb,Kd.S_below h.row hb,keep_below' h.bel hb h.bel.1.1⟩
theorem RBox.drew {w:World} {g:Nat} {v:Value} {an bn:Int} {bare:Bool} {fn:Nat} {l:List S41} {wr:World} (h:RBox w g v an bn bare fn l wr):RBox w g v an bn bare fn l wr.drew:=h.below (below_drew (Below.refl _ _))
theorem RBox.put {w:World} {g:Nat} {v:Value} {an bn:Int} {bare:Bool} {fn:Nat} {l:List S41} {wr:World} (h:RBox w g v an bn bare fn l wr) (j:Nat) (u:Value) :
  Kd.S k41 41 (wr.setCell ⟨g,j,none⟩ u) w.heap.size (fun _=>True) v l∧Keep1 w g (wr.setCell ⟨g,j,none⟩ u) :=
 ⟨Kd.S_set h.row h.box (by intro q hq;simp [k41,Kd.iso,Kd.pair,Kd.int,Kd.scalar,Kd.slice,Kd.string] at hq;rcases hq with rfl|rfl<;>decide) j u,h.bel.set_ j u⟩
theorem RBox.an_ {w:World} {g:Nat} {v:Value} {an bn:Int} {bare:Bool} {fn:Nat} {l:List S41} {wr:World} (h:RBox w g v an bn bare fn l wr) (n:Int):RBox w g v n bn bare fn l (wr.setCell ⟨g,1,none⟩ (.int .i64 n)) :=
 ⟨blk_put h.box 1 _ rfl,(h.put 1 _).1,(h.put 1 _).2⟩
theorem RBox.bn_ {w:World} {g:Nat} {v:Value} {an bn:Int} {bare:Bool} {fn:Nat} {l:List S41} {wr:World} (h:RBox w g v an bn bare fn l wr) (n:Int):RBox w g v an n bare fn l (wr.setCell ⟨g,2,none⟩ (.int .i64 n)) :=
 ⟨blk_put h.box 2 _ rfl,(h.put 2 _).1,(h.put 2 _).2⟩
theorem RBox.bare_ {w:World} {g:Nat} {v:Value} {an bn:Int} {bare:Bool} {fn:Nat} {l:List S41} {wr:World} (h:RBox w g v an bn bare fn l wr) (b:Bool):RBox w g v an bn b fn l (wr.setCell ⟨g,3,none⟩ (.bool b)) :=
 ⟨blk_put h.box 3 _ rfl,(h.put 3 _).1,(h.put 3 _).2⟩
theorem RBox.fn_ {w:World} {g:Nat} {v:Value} {an bn:Int} {bare:Bool} {fn:Nat} {l:List S41} {wr:World} (h:RBox w g v an bn bare fn l wr) (f:Nat):RBox w g v an bn bare f l (wr.setCell ⟨g,4,none⟩ (.func (.func f) #[.pointer (some ⟨g,0,none⟩)] #[])) :=
 ⟨blk_put h.box 4 _ rfl,(h.put 4 _).1,(h.put 4 _).2⟩
def nextF (an bn:Int):Nat:=if an=0∧bn=0 then 60 else 59
set_option maxRecDepth 100000 in
set_option maxHeartbeats 4000000 in
theorem next_calls (w:World) (g:Nat) (v:Value) (an bn:Int) (bare:Bool) (fn:Nat) (l:List S41) (W:World) (h:RBox w g v an bn bare fn l W) :
  Calls Tryd.prog 31 #[.pointer (some ⟨g,0,none⟩)] W fun e w'=>e=.returned (.tuple #[])∧RBox w g v an bn bare (nextF an bn) l w':=by
 have H:=Aside0.mk h
 have hz1:W.cell? ⟨g,1,none⟩=some (.int .i64 an):=(blk_cell h.box 1).trans rfl
 have hz2:W.cell? ⟨g,2,none⟩=some (.int .i64 bn):=(blk_cell h.box 2).trans rfl
 have hz4:W.cell? ⟨g,4,none⟩=some (.func (.func fn) #[.pointer (some ⟨g,0,none⟩)] #[]):=(blk_cell h.box 4).trans rfl
 have hzf:=blk_frozen h.box 4
 have hzs:=blk_frozen h.box 1
 clear h
 by_cases c1:an=0∧bn=0
 ·obtain ⟨rfl,rfl⟩:=c1
  go_enter Tryd.func31,Tryd.ntmps31
  go_wp2
  go_end0
  exact ⟨rfl,((H.out.fn_ _).fn_ _)⟩
 ·have hn:nextF an bn=59:=if_neg c1
  by_cases c2:an=0
  ·have c3:(bn == 0)=false:=beq_eq_false_iff_ne.2 fun e=>c1 ⟨c2,e⟩
   have c4:(an == 0)=true:=beq_iff_eq.2 c2
   clear c1 c2
   go_enter Tryd.func31,Tryd.ntmps31
   go_wp2
   go_end0
   exact ⟨rfl,by rw [hn];exact H.out.fn_ _⟩
  ·have c4:(an == 0)=false:=beq_eq_false_iff_ne.2 c2
   clear c1 c2
   go_enter Tryd.func31,Tryd.ntmps31
   go_wp2
   go_end0
   exact ⟨rfl,by rw [hn];exact H.out.fn_ _⟩
end Go.Proofs.YtamojbfmphainaaDoor.Pr
-- shrunk
/-
What the rows' lists give: the tables, the errors and the bound that layer 6 reads; a world that holds them.
-/
namespace Go.Proofs.YtamojbfmphainaaDoor.Pr
open Go.RowKit Go.Proofs.YtamojbfmphainaaDoorW.PrintWords Go.Proofs.YtamojbfmphainaaDoorW.PrintLast Go.Proofs.YtamojbfmphainaaDoorW.PrintMore
abbrev laidL : List (String × DataW Unit) := [("math/bits.deBruijn32tab", Rows.laid_math_bits_deBruijn32tab), ("math/bits.deBruijn64tab", Rows.laid_math_bits_deBruijn64tab), ("internal/strconv.uint64pow10", Rows.laid_internal_strconv_uint64pow10), ("strconv.ErrRange", Rows.laid_strconv_ErrRange), ("strconv.ErrSyntax", Rows.laid_strconv_ErrSyntax)]
theorem gPow : Tryd.prog.globalNamed "internal/strconv.uint64pow10" = some 1 := by kernel_rfl
theorem gRng : Tryd.prog.globalNamed "strconv.ErrRange" = some 5 := by kernel_rfl
theorem gSyn : Tryd.prog.globalNamed "strconv.ErrSyntax" = some 4 := by kernel_rfl
theorem starE : "*" ++ "errors.errorString" = "*errors.errorString" := by decide
theorem rowE (u : TypeId) (h : Tryd.prog.typeName? 3 u = some "*errors.errorString") : u = 141 :=
 typeName_ptr_named (nm := "errors.errorString") (by rw [starE]; kernel_rfl) (by kernel_rfl) (by decide) u (by rw [starE]; exact h)
theorem laidU_of {W:World} (h:laidMetH Tryd.prog laidL W) (hsh:W.ShapedOpen Tryd.prog):LaidU W:=by
 have h1:laidMet Tryd.prog laidL W:=h
 have hp : laidMet Tryd.prog [("internal/strconv.uint64pow10", Rows.laid_internal_strconv_uint64pow10)] W := h1.filter (fun x => x.1 == "internal/strconv.uint64pow10")
 have hr : laidMet Tryd.prog [("strconv.ErrRange", Rows.laid_strconv_ErrRange)] W := h1.filter (fun x => x.1 == "strconv.ErrRange")
 have hs : laidMet Tryd.prog [("strconv.ErrSyntax", Rows.laid_strconv_ErrSyntax)] W := h1.filter (fun x => x.1 == "strconv.ErrSyntax")
 obtain ⟨a1,s1,hv1,-⟩:=laid_sentinel hs gSyn (show (Tryd.prog.globals[4]?).map (·.type)=some 50 by kernel_rfl) Tryd.underlying50 rowE Tryd.underlying141 Tryd.underlying143 rfl rfl Tryd.underlying9 (by kernel_rfl) (by kernel_rfl)
 obtain ⟨a2,s2,hv2,-⟩:=laid_sentinel hr gRng (show (Tryd.prog.globals[5]?).map (·.type)=some 50 by kernel_rfl) Tryd.underlying50 rowE Tryd.underlying141 Tryd.underlying143 rfl rfl Tryd.underlying9 (by kernel_rfl) (by kernel_rfl)
 exact ⟨Lib.tabIs_of_head (rest:=[]) (n:=20) (k:=.u64) (zs:=Lib.pow10Tab) gPow (show (Tryd.prog.globals[1]?).map (·.type)=some 121 by kernel_rfl) Tryd.underlying121 Tryd.underlying112 (by kernel_rfl) (by kernel_rfl) hp,
  ⟨_,_,hv1⟩,⟨_,_,hv2⟩,
  Go.Proofs.cell_of_shapedOpen_int (zero:=#[.int .i64 0]) (t:=3) hsh (of_decide_eq_true (by kernel_rfl)) (by kernel_rfl) rfl (by kernel_rfl) (by kernel_rfl) Tryd.underlying3⟩
theorem laidAll_met (os:Os) (args:Array Value):laidMet Tryd.prog laidL ((World.laidAll Tryd.prog os laidL).forCall (fun _ _=>0) ⟨#[],args,[]⟩).memory :=
 laidMet_laidAll args (by kernel_rfl) (by kernel_rfl)
end Go.Proofs.YtamojbfmphainaaDoor.Pr
-- shrunk
/-
A range over an iterator that keeps its state in one captured cell: the law of the caller, for a body that never leaves the loop and leaves that cell alone.
-/
namespace Go.Proofs.YtamojbfmphainaaDoor.Pr
open Go.RowKit
variable {F:Fence} {n:Nat} {P:Program}
def SeqCell {α:Type} (F:Fence) (n:Nat) (P:Program) (g:Nat) (lb:Array Value) (encs:α→Array Value) (B:Nat) (xs:List α) (st:World→Prop):Prop :=
 ∀ (l:Nat) (J:List α→World→Prop) (W:World),st W→(∀ pre W1 v,J pre W1→J pre (W1.setCell ⟨B,0,none⟩ v)) →
  (∀ pre x W1,J pre W1→pre.length<xs.length→YieldAt F (n - 1) P l (encs x) W1 fun e W'=>e=.returned (.bool true)∧J (pre++[x]) W'∧W'.heap[B]?=W1.heap[B]?) →
  J [] W →
  CallsIn F n P g (#[.func (.yield l) #[] #[]]++lb) W fun e W'=>(∃ v,e=.returned v)∧J xs W'
theorem wpIn_rangeFunc_cell {α:Type} {g:Operand} {ps:Array Tmp} {assign body:Code} {Q:Exit→Act→World→Prop} {a:Act} {w:World}
  (hro:F.round=none) (h1:1≤n) {gf:Nat} {lb:Array Value} (hg:a.eval g=.func (.func gf) #[] lb) (hFg:F.fn gf) (eg:∀ args w,(callFunc gf args).run P w=.ok (.enter gf args) w)
  {encs:α→Array Value} {B:Nat} {xs:List α} {st:World→Prop} (hseq:SeqCell F (n - 1) P gf lb encs B xs st) (hB:B<w.heap.size) (hst:∀ W,W.heap[B]?=w.heap[B]?→st W) (hps:∀ x,(encs x).size=ps.size)
  (I:List α→World→Prop) (hI:OwnFrom w.heap.size I) (hIB:∀ pre W v,I pre W→I pre (W.setCell ⟨B,0,none⟩ v)) (h0:I [] w) (a₁:α→Act)
  (hassign:∀ (l:Nat) (x:α) (W:World) (K:Act→World→Prop),K (a₁ x) W →
   assign.wpIn (F.inRound l) (n - 1 - 1) P (Exit.then K (fun _ _ _=>False)) { tmps:=(ps.zip (encs x)).foldl (fun t (p,v)=>t.setIfInBounds p v) a.tmps,defers:=[] } W)
  (hbody:∀ (l:Nat) (pre:List α) (x:α) (W:World),I pre W→pre.length<xs.length→body.wpIn (F.inRound l) (n - 1 - 1) P (ownPostK (fun W W'=>W'.heap[B]?=W.heap[B]?) I (fun _ _ _=>False) (pre++[x]) W) (a₁ x) W)
  (hdone:∀ (D:Nat) (W:World),w.heap.size≤D→I xs W→W.heap[D]?=some (.deferred (some []))→Q .normal { a with defers:={ target:=.collected D,args:=#[] } :: a.defers } W) :
  (Code.rangeFunc g ps assign body).wpIn F n P Q a w:=by
 refine wpIn_rangeFunc ?_
 intro fn hfn
 rw [hro]
 obtain ⟨rec,hrec⟩:∃ rec:LoopState→Option Code→Loop,rec=fun st pe=>{ state:=st,pending:=pe,fn,tmps:=a.tmps,params:=ps,assign,body,defers:=w.heap.size }:=⟨_,rfl⟩
 obtain ⟨W1,hW1⟩:∃ W1,(w.alloc (.deferred (some []))).alloc (.loop (rec .ready none))=W1:=⟨_,rfl⟩
 have hL1:W1.heap[w.heap.size+1]?=some (.loop (rec .ready none)):=by
  rw [← hW1];have:=World.alloc_heap_new (w.alloc (.deferred (some []))) (.loop (rec .ready none));rwa [World.size_alloc] at this
 have hK1:W1.heap[w.heap.size]?=some (.deferred (some [])):=by
  rw [← hW1];exact (Below.heap_alloc _ _ _ (by simp)).trans (World.alloc_heap_new w _)
 have hI1:I [] W1:=by rw [← hW1];exact hI.alloc _ (hI.alloc _ h0)
 have hB1:W1.heap[B]?=w.heap[B]?:=by
  rw [← hW1,Below.heap_alloc _ _ _ (by simp;omega),Below.heap_alloc _ _ _ hB]
 refine ⟨w.heap.size+1,[{ target:=.collected w.heap.size,args:=#[] }],W1,{ target:=.fn (.func gf) lb,args:=#[.func (.yield (w.heap.size+1)) #[] #[]] },W1,gf,
  #[.func (.yield (w.heap.size+1)) #[] #[]]++lb,W1,?_,?_,?_,?_,fun _=>h1,?_⟩
 ·rw [← hW1,hrec];exact run_enterLoop_outer _ _ _ _ _
 ·simp only [resolve,hg]
  simp [go_sem]
 ·intro f' hf';simp [Target.leads] at hf';subst hf';exact hFg
 ·simp [invoke,go_sem,eg]
 ·refine (hseq (w.heap.size+1)
   (fun pre W=>I pre W∧W.heap[w.heap.size+1]?=some (.loop (rec .ready none))∧W.heap[w.heap.size]?=some (.deferred (some [])))
   W1 (hst _ hB1)
   (fun pre A v hs=>⟨hIB _ _ _ hs.1,(Below.heap_setCell _ _ _ _ (by show _≠B;omega)).trans hs.2.1,(Below.heap_setCell _ _ _ _ (by show _≠B;omega)).trans hs.2.2⟩)
   ?_ ⟨hI1,hL1,hK1⟩).mono ?_
  ·rintro pre x W ⟨hi,hl,hk⟩ hlen
   have hlt:w.heap.size+1<W.heap.size:=(Array.getElem?_eq_some_iff.1 hl).1
   have hy:=run_yield (P:=P) (args:=encs x) hl (by rw [hrec];exact hps x)
   rw [hrec] at hy
   refine ⟨fn,_,assign,body,hy,roundIn_of_wpIn hfn (hassign _ x W _ ⟨_,run_beginRound hl (by rw [hrec]),?_⟩)⟩
   have hl2:(W.putObj (w.heap.size+1) (.loop { rec .ready none with state:=.busy })).heap[w.heap.size+1]?=some (.loop { rec .ready none with state:=.busy }):=World.putObj_heap_same hlt
   have hk2:(W.putObj (w.heap.size+1) (.loop { rec .ready none with state:=.busy })).heap[w.heap.size]?=some (.deferred (some [])):=(World.putObj_heap_other (by omega)).trans hk
   refine wpIn_mono (hbody _ pre x _ (hI.putObj _ hi (by omega) hl rfl) hlen) ?_
   have fin:∀ (W3:World),KeepsOthers (W.putObj (w.heap.size+1) (.loop { rec .ready none with state:=.busy })) W3 →
     (Instr.endRound (w.heap.size+1) none).run P W3=.ok (.bool true) (W3.putObj (w.heap.size+1) (.loop (rec .ready none))) ∧
     W3.heap[w.heap.size+1]?=some (.loop { rec .ready none with state:=.busy }) ∧
     (W3.putObj (w.heap.size+1) (.loop (rec .ready none))).heap[w.heap.size+1]?=some (.loop (rec .ready none)) ∧
     (W3.putObj (w.heap.size+1) (.loop (rec .ready none))).heap[w.heap.size]?=some (.deferred (some [])):=fun W3 hk3=>by
    have hl3:=hk3.same _ _ hl2 rfl
    have:=run_endRound (P:=P) none hl3
    rw [hrec] at this ⊢
    exact ⟨this,by rw [hrec] at hl3;exact hl3,World.putObj_heap_same (Array.getElem?_eq_some_iff.1 hl3).1,(World.putObj_heap_other (by omega)).trans (hk3.same _ _ hk2 rfl)⟩
   rintro e a3 W3 hp
   cases e with
   | normal =>
    obtain ⟨hk3,hkp3,hi3⟩:=hp
    obtain ⟨hr,hl3,hl4,hk4⟩:=fin W3 hk3
    exact ⟨_,_,hr,rfl,⟨hI.putObj _ hi3 (by omega) hl3 rfl,hl4,hk4⟩,(World.putObj_heap_other (by omega)).trans (hkp3.trans (World.putObj_heap_other (by omega)))⟩
   | ret=>exact hp.2.elim
   | exit id=>exact hp.2.elim
   | goto t=>exact hp.2.elim
   | panic ch=>exact hp.elim
   | outgrown=>exact hp.elim
  ·rintro e W2 ⟨⟨v,rfl⟩,hi,hl,hk⟩
   exact ⟨none,_,by have:=run_endLoop (P:=P) hl (by rw [hrec];simp);rw [hrec] at this;exact this,hdone _ _ (Nat.le_refl _) (hI.putObj _ hi (by omega) hl rfl) ((World.putObj_heap_other (by omega)).trans hk)⟩
end Go.Proofs.YtamojbfmphainaaDoor.Pr
-- shrunk
/-
strings.Index of one byte; strings.Join.
-/
namespace Go.Proofs.YtamojbfmphainaaDoor.Pr
open Go.RowKit Go.Proofs.YtamojbfmphainaaDoorW.PrintWords Go.Proofs.YtamojbfmphainaaDoorW.PrintLast Go.Proofs.YtamojbfmphainaaDoorW.PrintMore
theorem index_one (s:ByteArray) (c:UInt8) (w:World) :
  Calls Tryd.prog 65 #[.string s,.string ⟨#[c]⟩] w fun e w'=>e=.returned (.int .i64 (Lib.indexByte s.data.toList c))∧w'=w:=Tryd.strings_Index_one s c w
def strings_Index.f (a0:ByteArray) (a1:ByteArray):Option Int:=if a1.size=1 then some (Lib.indexByte a0.data.toList (a1.data.toList.headD 0)) else none
theorem one_byte (a:ByteArray) (h:a.size=1):a=⟨#[a.data.toList.headD 0]⟩:=by
 rcases a with ⟨⟨l⟩⟩
 match l with
 | []=>cases h
 | [c]=>rfl
 | a :: b :: l=>exact absurd (show l.length+1+1=1 from h) (by omega)
theorem strings_Index.calls (a0:ByteArray) (a1:ByteArray) (r:Int) (w:World) (h:strings_Index.f a0 a1=some r) :
  Calls Tryd.prog 65 #[.string a0,.string a1] w fun e w'=>e=.returned (.int .i64 r)∧Drawn0 w w':=by
 unfold strings_Index.f at h
 by_cases hs:a1.size=1
 ·rw [if_pos hs] at h
  obtain rfl:=Option.some.inj h
  have he:=one_byte a1 hs
  have h1:=index_one a0 (a1.data.toList.headD 0) w
  rw [← he] at h1
  exact h1.mono fun e w' hh=>⟨hh.1,by rw [hh.2];exact Drawn0.refl _⟩
 ·rw [if_neg hs] at h;cases h
end Go.Proofs.YtamojbfmphainaaDoor.Pr
-- shrunk
/-
lines.each and its iterator: it makes a round for each line of the text; slices.AppendSeq, slices.Collect, lines.Split and lines.Count over it.
-/
namespace Go.Proofs.YtamojbfmphainaaDoor.Pr
open Go.RowKit Go.Proofs.YtamojbfmphainaaDoorW.PrintWords Go.Proofs.YtamojbfmphainaaDoorW.PrintLast Go.Proofs.YtamojbfmphainaaDoorW.PrintMore
attribute [local go_sem] Oper.semAt_some
def cutAt (s:ByteArray):Nat:=if Lib.indexByte s.data.toList 10+1=0 then s.size else (Lib.indexByte s.data.toList 10+1).toNat
theorem indexByte_lt (l:List UInt8) (c:UInt8):Lib.indexByte l c = -1∨(0≤Lib.indexByte l c∧Lib.indexByte l c<l.length):=by
 induction l with
 | nil=>exact .inl rfl
 | cons b l ih =>
  unfold Lib.indexByte
  by_cases h:b=c
  ·subst h;right;simp
  ·rcases ih with h1|⟨h1,h2⟩
   ·left;simp [h,h1]
   ·right
    have h3:¬ Lib.indexByte l c = -1:=by omega
    simp [h,h3];omega
theorem cutAt_pos (s:ByteArray) (h:0<s.size):0<cutAt s∧cutAt s≤s.size:=by
 have h1:=indexByte_lt s.data.toList 10
 have h2:s.data.toList.length=s.size:=rfl
 unfold cutAt
 split<;>omega
def linesB (s:ByteArray):List ByteArray :=
 if h:s.size=0 then [] else s.extract 0 (cutAt s) :: linesB (s.extract (cutAt s) s.size)
termination_by s.size
decreasing_by
 have:=cutAt_pos s (by omega)
 rw [ByteArray.size_extract,Nat.min_self];omega
theorem linesB_nil (s:ByteArray) (h:s.size=0):linesB s=[]:=by rw [linesB,dif_pos h]
theorem linesB_cons (s:ByteArray) (h:s.size≠0):linesB s=s.extract 0 (cutAt s) :: linesB (s.extract (cutAt s) s.size):=by rw [linesB,dif_neg h]
def leftC (B:Nat) (w:World):Nat:=match w.heap[B]? with
 | some (Obj.cells cs _ _)=>(match cs[0]? with|some (Value.string s)=>s.size|_=>0)
 | _=>0
theorem leftC_eq {B:Nat} {w:World} {t:TypeId} {s:ByteArray} (h:Boxed w B t (.string s)):leftC B w=s.size:=by
 unfold leftC;rw [show w.heap[B]?=_ from h];rfl
theorem str_iff (x y:ByteArray):x.toList=y.toList ↔ x=y:=by
 have:=Lib.bytes_beq_iff x y
 rwa [beq_iff_eq] at this
theorem empty_toList:ByteArray.empty.toList=([]:List UInt8):=by
 rw [ByteArray.toList,ByteArray.toList.loop];simp
theorem str_nil (s:ByteArray) (h:s.size=0):s.toList=[]:=by
 rw [ByteArray.size_eq_zero_iff.1 h,empty_toList]
theorem str_ne (s:ByteArray) (h:s.size≠0):s.toList≠[]:=by
 intro e
 rw [← empty_toList,str_iff] at e
 exact h (by rw [e];rfl)
set_option maxRecDepth 100000 in
set_option maxHeartbeats 1000000 in
theorem each1_in (n:Nat) (hn:1≤n) (l B:Nat) (s:ByteArray) (hs:s.size≤9223372036854775807) (J:List ByteArray→World→Prop)
  (hJ:∀ pre W1 v,J pre W1→J pre (W1.setCell ⟨B,0,none⟩ v))
  (hY:∀ pre x W,J pre W→pre.length<(linesB s).length→YieldAt Fence.wide (n - 1) Tryd.prog l #[.string x] W fun e W'=>e=.returned (.bool true)∧J (pre++[x]) W'∧W'.heap[B]?=W.heap[B]?)
  (W:World) (hB:Boxed W B 9 (.string s)) (h0:J [] W) :
  CallsIn Fence.wide n Tryd.prog 64 #[.func (.yield l) #[] #[],.pointer (some ⟨B,0,none⟩)] W fun e W'=>(∃ v,e=.returned v)∧J (linesB s) W':=by
 refine callsIn_of_wp Tryd.func64 rfl trivial ?_ rfl
 simp only [Tryd.ntmps64,List.size_toArray,List.length_cons,List.length_nil,Nat.reduceAdd,Nat.reduceSub,Array.replicate_succ,Array.replicate_zero,List.push_toArray,List.append_toArray,List.nil_append,List.cons_append]
 gi_wp2
 gi_loopw [3] (fun i wr=>∃ (pre:List ByteArray) (s':ByteArray),s'.size≤s.size∧linesB s=pre++linesB s'∧Boxed wr B 9 (.string s')∧J pre wr)
  (fun i wr=>leftC B wr)
 case atStart=>exact ⟨[],s,Nat.le_refl _,rfl,hB,h0⟩
 case round =>
  obtain ⟨pre,s',hle,hx,hb,hJs⟩:=hrel
  have hc:=hb.cell
  have hf:=hb.frozen
  by_cases hz:s'.size=0
  ·have e1:=str_nil s' hz
   have e2:(!s'.toList.isEmpty)=false:=by rw [e1];rfl
   gi_wp2
   go_end0
   exact ⟨⟨_,rfl⟩,by rw [hx,linesB_nil _ hz,List.append_nil];exact hJs⟩
  ·have e1:=str_ne s' hz
   have e2:(!s'.toList.isEmpty)=true:=by
    cases h:s'.toList with
    | nil=>exact absurd h e1
    | cons _ _=>rfl
   obtain ⟨hp,hq⟩:=cutAt_pos s' (by omega)
   obtain ⟨fn,tmps,assign,body,hy,hR⟩:=hY pre (s'.extract 0 (cutAt s')) wr hJs (by rw [hx,linesB_cons _ hz];simp)
   have h1:=indexByte_lt s'.data.toList 10
   have h2:s'.data.toList.length=s'.size:=rfl
   have hL:=Aside0.mk (linesB_cons _ hz)
   have hX:=Aside0.mk hx
   have HB0:=Aside0.mk hb
   have hs:=Aside0.mk (Nat.le_trans (Nat.le_refl _) hle)
   obtain ⟨c,hc⟩:∃ c,c=cutAt s':=⟨_,rfl⟩
   have hIx:=index_one s' 10
   have hJJ:=Aside0.mk hJs
   have hsz:s'.size≤9223372036854775807:=by omega
   have hcs:(cutAt s'=s'.size∧Lib.indexByte s'.data.toList 10 = -1)∨(Lib.indexByte s'.data.toList 10=(cutAt s':Int) - 1):=by
    unfold cutAt
    split<;>omega
   rw [← hc] at hp hq hy hL hcs hR
   clear h1 h2 hx hc hJs hle
   rcases hcs with ⟨hcc,hi⟩|hi
   ·rw [hi] at hIx
    subst hcc
    rw [ByteArray.extract_zero_size] at hy hR hL
    have he:s'.extract s'.size s'.size=ByteArray.empty:=ByteArray.size_eq_zero_iff.1 (by rw [ByteArray.size_extract];omega)
    rw [he] at hL
    clear he
    have HI:=Aside0.mk hIx
    clear hIx hi
    gi_wp2_with (refine ⟨trivial,?_⟩;gi_at_call 65;refine (callsIn_wide.2 (HI.out _)).mono ?_;rintro e w' ⟨rfl,rfl⟩)
    refine hR.mono ?_
    rintro e W3 ⟨rfl,hJ3,hB3⟩
    have hb3:Boxed W3 B 9 (.string s'):=Eq.trans hB3 hb
    have hc3:=hb3.cell
    have hf3:=hb3.frozen
    have HJ:=Aside0.mk hJ3
    have HB:=Aside0.mk hb3
    clear hJ3 hB3 hb3 hc hf hb
    gi_wp2
    go_roundw
    case rel=>exact ⟨pre++[s'],ByteArray.empty,Nat.zero_le _,by rw [hX.out,hL.out];simp,HB.out.set _,hJ _ _ _ HJ.out⟩
    case measure=>rw [leftC_eq (HB.out.set _),leftC_eq HB0.out];exact hp
   ·rw [hi] at hIx
    have HI:=Aside0.mk hIx
    clear hIx hi
    have f1:(0:Int)≤(c:Int) - 1:=by omega
    have f2:(c:Int)≤9223372036854775807:=by omega
    gi_wp2_with (refine ⟨trivial,?_⟩;gi_at_call 65;refine (callsIn_wide.2 (HI.out _)).mono ?_;rintro e w' ⟨rfl,rfl⟩)
    refine hR.mono ?_
    rintro e W3 ⟨rfl,hJ3,hB3⟩
    have hb3:Boxed W3 B 9 (.string s'):=Eq.trans hB3 hb
    have hc3:=hb3.cell
    have hf3:=hb3.frozen
    have HJ:=Aside0.mk hJ3
    have HB:=Aside0.mk hb3
    clear hJ3 hB3 hb3 hc hf hb
    gi_wp2
    go_roundw
    case rel=>exact ⟨pre++[s'.extract 0 c],s'.extract c s'.size,by have h_:=hs.out;rw [ByteArray.size_extract,Nat.min_self];omega,by rw [hX.out,hL.out];simp,HB.out.set _,hJ _ _ _ HJ.out⟩
    case measure=>rw [leftC_eq (HB.out.set _),leftC_eq HB0.out,ByteArray.size_extract,Nat.min_self];omega
theorem each_cell (n:Nat) (hn:1≤n) (B:Nat) (s:ByteArray) (hs:s.size≤9223372036854775807) :
  SeqCell Fence.wide n Tryd.prog 64 #[.pointer (some ⟨B,0,none⟩)] (fun x:ByteArray=>#[Value.string x]) B (linesB s) (fun W=>Boxed W B 9 (.string s)) :=
 fun l J W hB hJ hY h0=>each1_in n hn l B s hs J hJ hY W hB h0
set_option maxHeartbeats 1000000 in
theorem each_in (n:Nat) (s:ByteArray) (w:World) :
  CallsIn Fence.wide n Tryd.prog 39 #[.string s] w fun e w'=>e=.returned (.func (.func 64) #[] #[.pointer (some ⟨w.heap.size,0,none⟩)])∧w'=w.alloc (.cells #[.string s] 9):=by
 refine callsIn_of_wp Tryd.func39 rfl trivial ?_ rfl
 simp only [Tryd.ntmps39,List.size_toArray,List.length_cons,List.length_nil,Nat.reduceAdd,Nat.reduceSub,Array.replicate_succ,Array.replicate_zero,List.push_toArray,List.append_toArray,List.nil_append,List.cons_append]
 gi_wp2
 go_ret
 exact ⟨rfl,rfl⟩
theorem linesB_len (s:ByteArray):(linesB s).length≤s.size:=by
 generalize hn:s.size=n
 induction n using Nat.strongRecOn generalizing s with
 | _ n ih =>
  by_cases h:s.size=0
  ·rw [linesB_nil s h];simp
  ·have hp:=cutAt_pos s (by omega)
   rw [linesB_cons s h,List.length_cons]
   have:=ih (s.extract (cutAt s) s.size).size (by rw [ByteArray.size_extract,Nat.min_self];omega) _ rfl
   rw [ByteArray.size_extract,Nat.min_self] at this
   omega
set_option maxRecDepth 100000 in
set_option maxHeartbeats 2000000 in
theorem appendSeq_in (n:Nat) (hn:3≤n) (B:Nat) (s:ByteArray) (hs:s.size≤4398046511104) (w:World) (hB:Boxed w B 9 (.string s)) :
  CallsIn Fence.wide n Tryd.prog 66 #[.slice none 0 0,.func (.func 64) #[] #[.pointer (some ⟨B,0,none⟩)]] w fun e W'=>∃ v,e=.returned v∧W'.ownsRow w.heap.size 9 1 v (linesB s).length ((linesB s).map Value.string)∧Below B w W':=by
 have h1:1≤n:=by omega
 have hlen:=linesB_len s
 obtain ⟨i0,hi,hz0,hz1,hz2⟩:=info_parts info9
 refine callsIn_of_wp_marks Tryd.func66 rfl trivial ?_ rfl
 simp only [Tryd.ntmps66,List.size_toArray,List.length_cons,List.length_nil,Nat.reduceAdd,Nat.reduceSub,Array.replicate_succ,Array.replicate_zero,List.push_toArray,List.append_toArray,List.nil_append,List.cons_append]
 gi_wp2
 have hlt:=hB.lt
 have bO:=Boxed.new w 33 (.slice none 0 0)
 have hB0:Below B w (w.alloc (.cells #[.slice none 0 0] 33)):=(Below.refl _ w).alloc (by omega) _
 have own_b:∀ {W:World} {v:Value} {k:Nat} {xs:List Value},W.ownsRow w.heap.size 9 1 v k xs→some B≠v.ownBlock:=by
  intro W v k xs h
  rcases h.2 with ⟨rfl,_⟩|⟨g,cap,cur,rfl,hg,_⟩
  ·simp [Value.ownBlock]
  ·intro e'
   obtain rfl:B=g:=by simpa [Value.ownBlock] using e'
   omega
 refine wpIn_rangeFunc_cell rfl h1 (gf:=64) (lb:=#[.pointer (some ⟨B,0,none⟩)]) rfl trivial (enters_of Tryd.func64 (by kernel_rfl) rfl)
  (each_cell (n - 1) (by omega) B s (by omega)) (by simp;omega) (fun W hW=>Eq.trans hW (hB.alloc _)) (fun _=>rfl)
  (fun pre W=>(∃ v,Boxed W w.heap.size 33 v∧W.ownsRow w.heap.size 9 1 v pre.length (pre.map Value.string)∧True)∧Below B w W)
  (OwnFrom.and (Own.from (holdsRow_own w.heap.size w.heap.size 33 9 1 (fun pre:List ByteArray=>pre.length) (fun pre=>pre.map Value.string) (fun pre v=>True)) _) (ownFrom_below (by omega) (by simp;omega)))
  (fun pre W u h=>⟨by obtain ⟨v,a,b,c⟩:=h.1;exact ⟨v,a.kept (grownBy_setCell' W B u) (by simp;omega),b.kept (grownBy_setCell' W B u) (.inr (own_b b).symm),c⟩,h.2.setCell (p:=⟨B,0,none⟩) (Nat.le_refl _) _⟩)
  ⟨⟨_,bO,World.ownsRow_nil _ _ _ _,trivial⟩,hB0⟩
  (fun x=>{ tmps:=#[.slice none 0 0,.func (.func 64) #[] #[.pointer (some ⟨B,0,none⟩)],.pointer (some ⟨w.heap.size,0,none⟩),undef,.slice none 0 0,.string x,.func (.func 64) #[] #[.pointer (some ⟨B,0,none⟩)],.string x,undef,undef,undef,undef,undef],defers:=[] }) ?assign ?body ?done
 case assign =>
  intro l x W K hK
  gi_wp2
  exact hK
 case body =>
  rintro l pre x W ⟨⟨v,hv,hrow,_⟩,hb⟩ hlt2
  have hc:=hv.cell
  have hsz:=hb.size
  have hml:(linesB s).length≤maxLen:=by unfold maxLen;omega
  gi_wp2_with (gi_at_builtin;refine wpListIn_append_own _ rfl _ _ 33 rfl w.heap.size 9 i0 (.string ⟨#[]⟩) 1 16 Tryd.underlying33 hi hz0 hz1 hz2 rfl (by decide) _ _ _ rfl (hrow.alloc _) ⟨W.heap.size,0,none⟩ 1 1 [.string x] rfl rfl (cell_one_new _ _ _) (by simp [Value.oneCell']) (by omega) (by omega) (by simp;omega) ?_;intro v' w1 hown' hgrow _;obtain ⟨g',cap',rfl⟩:=ownsRow_succ hown';obtain ⟨hv1,hv2,hr2,hk2,hb2⟩:=hv.appended (by decide) hrow (by omega) (Nat.le_refl _) hown' hgrow;have hc1:=hv1.cell;have hf1:=hv1.frozen)
  exact ⟨hk2,hb2.block B hlt,⟨_,hv2,by simpa using hr2,trivial⟩,hb.trans (hb2.mono (by omega))⟩
 case done =>
  rintro D W hD ⟨⟨v,hv,hrow,_⟩,hb⟩ hK
  have hc:=hv.cell
  gi_wp2
  refine ⟨by simp,.inl ⟨_,_,rfl,run_takeDeferred hK,?_⟩⟩
  exact ⟨_,results_tmp rfl _ _ _,v,rfl,ownsRow_putObj hrow _ hK rfl,hb.trans (belowK_b (w:=w) (by omega) W D _ _ (by simp at hD;omega) hK rfl rfl)⟩
set_option maxHeartbeats 1000000 in
theorem collect_in (n:Nat) (hn:4≤n) (B:Nat) (s:ByteArray) (hs:s.size≤4398046511104) (w:World) (hB:Boxed w B 9 (.string s)) :
  CallsIn Fence.wide n Tryd.prog 40 #[.func (.func 64) #[] #[.pointer (some ⟨B,0,none⟩)]] w fun e W'=>∃ v,e=.returned v∧W'.ownsRow w.heap.size 9 1 v (linesB s).length ((linesB s).map Value.string)∧Below B w W':=by
 have hn1:1≤n:=by omega
 refine callsIn_of_wp Tryd.func40 rfl trivial ?_ rfl
 simp only [Tryd.ntmps40,List.size_toArray,List.length_cons,List.length_nil,Nat.reduceAdd,Nat.reduceSub,Array.replicate_succ,Array.replicate_zero,List.push_toArray,List.append_toArray,List.nil_append,List.cons_append]
 gi_wp2_with (refine ⟨trivial,?_⟩;gi_at_call 66;refine (appendSeq_in (n - 1) (by omega) B s hs _ hB).mono ?_;rintro e w' ⟨v,rfl,ho,hb⟩;have HO:=Aside0.mk ho;have HBb:=Aside0.mk hb;clear ho hb)
 go_ret
 exact ⟨_,rfl,HO.out,HBb.out⟩
def lines_Split.f (a0:ByteArray):Option (List ByteArray):=if a0.size≤4398046511104 then some (linesB a0) else none
theorem own_strs {w:World} {base:Nat} {v:Value} {xs:List ByteArray} (h:w.ownsRow base 9 1 v xs.length (xs.map Value.string)):Kd.R Kd.string 9 w base (fun _=>True) v xs :=
 ⟨fun _ _=>trivial,_,h,Kd.reps_scalar xs⟩
set_option maxHeartbeats 1000000 in
theorem lines_Split.calls (a0:ByteArray) (r:List ByteArray) (w:World) (h:lines_Split.f a0=some r) :
  Calls Tryd.prog 16 #[.string a0] w fun e w'=>∃ v0_:Value,e=.returned (v0_)∧Kd.R Kd.string 9 w' w.heap.size (fun _=>True) v0_ r∧Below w.heap.size w w':=by
 unfold lines_Split.f at h
 by_cases hs:a0.size≤4398046511104
 ·rw [if_pos hs] at h
  obtain rfl:=Option.some.inj h
  refine (callsIn_wide (n:=8)).1 ?_
  refine callsIn_of_wp Tryd.func16 rfl trivial ?_ rfl
  simp only [Tryd.ntmps16,List.size_toArray,List.length_cons,List.length_nil,Nat.reduceAdd,Nat.reduceSub,Array.replicate_succ,Array.replicate_zero,List.push_toArray,List.append_toArray,List.nil_append,List.cons_append]
  have hn:=Boxed.new w 9 (.string a0)
  clear h
  gi_wp2_with (first
   | (refine ⟨trivial,?_⟩;gi_at_call 39;refine (each_in _ a0 _).mono ?_;rintro e w' ⟨rfl,rfl⟩)
   | (refine ⟨trivial,?_⟩;gi_at_call 40;refine (collect_in _ (by omega) w.heap.size a0 hs _ hn).mono ?_;rintro e w' ⟨v,rfl,ho,hb⟩;have HO:=Aside0.mk ho;have HBb:=Aside0.mk hb;clear ho hb))
  go_ret
  refine ⟨_,rfl,Kd.R_lower (own_strs HO.out) (by simp),?_⟩
  exact ((Below.refl _ w).alloc (Nat.le_refl _) _).trans HBb.out
 ·rw [if_neg hs] at h;cases h
end Go.Proofs.YtamojbfmphainaaDoor.Pr
-- shrunk
/-
A text's lines, as plain functions on lists of bytes.
-/
namespace Go.Proofs.YtamojbfmphainaaDoor.Pr
open Go.RowKit Go.Proofs.YtamojbfmphainaaDoorW.PrintWords Go.Proofs.YtamojbfmphainaaDoorW.PrintLast Go.Proofs.YtamojbfmphainaaDoorW.PrintMore
def glue (cur:List UInt8):List (List UInt8)→List (List UInt8)
 | []=>[cur]
 | x :: xs=>(cur++x) :: xs
def lns:List UInt8→List (List UInt8)
 | []=>[]
 | b :: l=>if b=10 then [b] :: lns l else glue [b] (lns l)
def closedL (l:List UInt8):Bool:=decide (l=[]) || l.getLast? == some 10
theorem lns_nl (l:List UInt8):lns (10 :: l)=[10] :: lns l:=by simp [lns]
theorem lns_no {b:UInt8} (h:b≠10) (l:List UInt8):lns (b :: l)=glue [b] (lns l):=by simp [lns,h]
theorem glue_glue (a b:List UInt8) (xs:List (List UInt8)):glue a (glue b xs)=glue (a++b) xs:=by cases xs<;>simp [glue]
theorem lns_flatten (l:List UInt8):(lns l).flatten=l:=by
 induction l with
 | nil=>rfl
 | cons b l ih =>
  by_cases h:b=10
  ·subst h;rw [lns_nl,List.flatten_cons,ih];rfl
  ·rw [lns_no h]
   cases hl:lns l with
   | nil=>rw [hl] at ih;simp at ih;simp [glue,← ih]
   | cons x xs=>rw [hl] at ih;simp [glue,← ih]
theorem lns_ne (l:List UInt8):∀ x ∈ lns l,x≠[]:=by
 induction l with
 | nil=>simp [lns]
 | cons b l ih =>
  by_cases h:b=10
  ·subst h;rw [lns_nl];intro x hx;rcases List.mem_cons.1 hx with rfl|hx
   ·simp
   ·exact ih x hx
  ·rw [lns_no h]
   cases hl:lns l with
   | nil=>simp [glue]
   | cons y ys =>
    rw [hl] at ih
    intro x hx
    rcases List.mem_cons.1 hx with rfl|hx
    ·simp
    ·exact ih x (List.mem_cons_of_mem _ hx)
def bs (l:List UInt8):ByteArray:=⟨l.toArray⟩
theorem bs_inj {a b:List UInt8} (h:bs a=bs b):a=b:=by have:=congrArg (fun s=>s.data.toList) h;simpa [bs] using this
def cutL:List UInt8→Nat
 | []=>0
 | b :: l=>if b=10 then 1 else cutL l+1
theorem cutL_index (l:List UInt8):(Lib.indexByte l 10 = -1→cutL l=l.length)∧(Lib.indexByte l 10 ≠ -1→(cutL l:Int)=Lib.indexByte l 10+1):=by
 induction l with
 | nil=>simp [Lib.indexByte,cutL]
 | cons b l ih =>
  unfold Lib.indexByte cutL
  by_cases h:b=10
  ·subst h;simp
  ·have hb:(b == 10)=false:=by simpa using h
   rw [hb]
   simp only [Bool.false_eq_true,if_false,if_neg h]
   have:=indexByte_lt l 10
   by_cases h2:Lib.indexByte l 10 = -1
   ·have h3:=ih.1 h2
    simp [h2,h3]
   ·have h3:=ih.2 h2
    have h4:(Lib.indexByte l 10 == -1)=false:=by simpa using h2
    rw [h4]
    simp only [Bool.false_eq_true,if_false]
    exact ⟨fun h=>by omega,fun _=>by omega⟩
theorem cutAt_eq (s:ByteArray):cutAt s=cutL s.data.toList:=by
 have h:=cutL_index s.data.toList
 have h2:=indexByte_lt s.data.toList 10
 have h3:s.data.toList.length=s.size:=rfl
 unfold cutAt
 by_cases h1:Lib.indexByte s.data.toList 10 = -1
 ·rw [if_pos (by omega),h.1 h1,h3]
 ·rw [if_neg (by omega)]
  have:=h.2 h1
  omega
theorem lns_cut (l:List UInt8) (h:l≠[]):lns l=l.take (cutL l) :: lns (l.drop (cutL l)):=by
 induction l with
 | nil=>exact absurd rfl h
 | cons b l ih =>
  by_cases hb:b=10
  ·subst hb;rw [lns_nl];simp [cutL]
  ·rw [lns_no hb]
   simp only [cutL,if_neg hb,List.take_succ_cons,List.drop_succ_cons]
   by_cases hl:l=[]
   ·subst hl;rfl
   ·rw [ih hl];rfl
theorem linesB_lns (s:ByteArray):linesB s=(lns s.data.toList).map bs:=by
 generalize hn:s.size=n
 induction n using Nat.strongRecOn generalizing s with
 | _ n ih =>
  by_cases h:s.size=0
  ·rw [linesB_nil s h,ByteArray.size_eq_zero_iff.1 h];rfl
  ·have hp:=cutAt_pos s (by omega)
   have hne:s.data.toList≠[]:=fun e=>h (congrArg List.length e)
   rw [linesB_cons s h,lns_cut _ hne,List.map_cons,ih (s.extract (cutAt s) s.size).size (by rw [ByteArray.size_extract,Nat.min_self];omega) _ rfl,← cutAt_eq]
   have h3:s.data.toList.length=s.size:=rfl
   congr 1
   ·apply ByteArray.ext
    apply Array.toList_inj.1
    simp [bs,ByteArray.data_extract]
   ·congr 2
    simp [ByteArray.data_extract,List.take_of_length_le,h3]
end Go.Proofs.YtamojbfmphainaaDoor.Pr
-- shrunk
/-
What is between two lists of texts, as plain functions on lists: the longest common subsequence's length, the way, and the edits of the way.
-/
namespace Go.Proofs.YtamojbfmphainaaDoor.Pr
open Go.RowKit Go.Proofs.YtamojbfmphainaaDoorW.PrintWords Go.Proofs.YtamojbfmphainaaDoorW.PrintLast Go.Proofs.YtamojbfmphainaaDoorW.PrintMore
abbrev Ed:=S72
def lcsLen:List ByteArray→List ByteArray→Nat
 | [],_=>0
 | _ :: _,[]=>0
 | x :: xs,y :: ys=>if x=y then lcsLen xs ys+1 else max (lcsLen xs (y :: ys)) (lcsLen (x :: xs) ys)
termination_by xs ys=>xs.length+ys.length
inductive Step where
 | keep
 | del
 | ins (s:ByteArray)
def steps:List ByteArray→List ByteArray→List Step
 | [],[]=>[]
 | [],y :: ys=>.ins y :: steps [] ys
 | _ :: xs,[]=>.del :: steps xs []
 | x :: xs,y :: ys=>if x=y then .keep :: steps xs ys else if lcsLen (x :: xs) ys≤lcsLen xs (y :: ys) then .del :: steps xs (y :: ys) else .ins y :: steps (x :: xs) ys
termination_by xs ys=>xs.length+ys.length
def edLast (out:List Ed):Ed:=out.getD (out.length - 1) ⟨0,0,[]⟩
def opened (at_:Int) (op:Bool) (out:List Ed):List Ed:=if op=true then out else out++[⟨at_,0,[]⟩]
def addDel (out:List Ed):List Ed:=out.set (out.length - 1) ⟨(edLast out).f0,(edLast out).f1+1,(edLast out).f2⟩
def addIns (s:ByteArray) (out:List Ed):List Ed:=out.set (out.length - 1) ⟨(edLast out).f0,(edLast out).f1,(edLast out).f2++[s]⟩
def edits (at_:Int) (op:Bool) (out:List Ed):List Step→List Ed
 | []=>out
 | .keep :: r=>edits (at_+1) false out r
 | .del :: r=>edits (at_+1) true (addDel (opened at_ op out)) r
 | .ins s :: r=>edits at_ true (addIns s (opened at_ op out)) r
def common:List ByteArray→List ByteArray→Nat
 | x :: xs,y :: ys=>if x=y then common xs ys+1 else 0
 | _,_=>0
def midEdits (at_:Int) (x y:List ByteArray):List Ed :=
 if x=[]∧y=[] then [] else if x=[]∨y=[]∨65536<x.length * y.length then [⟨at_,(x.length:Int),y⟩] else edits at_ false [] (steps x y)
def frontOf (a b:List ByteArray):Nat:=common a b
def endOf (a b:List ByteArray):Nat:=common (a.drop (frontOf a b)).reverse (b.drop (frontOf a b)).reverse
def midOf (a b:List ByteArray):List ByteArray:=(a.drop (frontOf a b)).take ((a.drop (frontOf a b)).length - endOf a b)
def between (a b:List ByteArray):List Ed :=
 midEdits (frontOf a b:Int) (midOf a b) ((b.drop (frontOf a b)).take ((b.drop (frontOf a b)).length - endOf a b))
end Go.Proofs.YtamojbfmphainaaDoor.Pr
-- shrunk
-- written by a program of this session's (a turned copy of the kit's printer); Lean checks it
namespace Go.Proofs.YtamojbfmphainaaDoor.Pr
open Go.RowKit Go.Proofs.YtamojbfmphainaaDoorW.PrintWords Go.Proofs.YtamojbfmphainaaDoorW.PrintLast Go.Proofs.YtamojbfmphainaaDoorW.PrintMore
attribute [local go_sem] max2_int min2_int max_two min_two max_three min_three max_four min_four   -- for this text's walks alone

def r01_Texts.l0:Nat→List ByteArray→List ByteArray→Int→Option (Bool)
 | 0,_,_,_=>none
 | k+1,x0,x1,x5=>if x5<(x0.length:Int) then (if 0≤x5 then (if x5<(x1.length:Int) then (if (rdOf ByteArray.empty x0 x5).toList=(rdOf ByteArray.empty x1 x5).toList then (r01_Texts.l0 k x0 x1 (wrap64 (x5+1))) else (some false)) else (none)) else (none)) else (some true)
def r01_Texts.f (k:Nat) (l0:List ByteArray) (l1:List ByteArray):Option (Bool):=if (l0.length:Int)=(l1.length:Int) then (r01_Texts.l0 k l0 l1 0) else (some false)
set_option maxHeartbeats 8000000 in
set_option maxRecDepth 100000 in
theorem r01_Texts.calls (k:Nat) (A0:Option Addr) (c0:Nat) (l0:List ByteArray) (A1:Option Addr) (c1:Nat) (l1:List ByteArray) (r:Bool) (w:World) (hr0:Kd.C Kd.string w A0 l0.length l0) (hc0:l0.length≤c0) (hr1:Kd.C Kd.string w A1 l1.length l1) (hc1:l1.length≤c1) (h:r01_Texts.f k l0 l1=some r) :
  Calls Tryd.prog 50 #[.slice A0 l0.length c0,.slice A1 l1.length c1] w fun e w'=>e=.returned (.bool r)∧Drawn0 w w':=by
 have HR0:=Aside0.mk hr0
 have HC0:=Aside0.mk hc0
 clear hr0 hc0
 have HR1:=Aside0.mk hr1
 have HC1:=Aside0.mk hc1
 clear hr1 hc1
 have H:(if (l0.length:Int)=(l1.length:Int) then (r01_Texts.l0 k l0 l1 0) else (some false))=some r:=h
 clear h
 by_cases c3:(l0.length:Int)=(l1.length:Int)
 ·rw [if_pos c3] at H
  have c3b0:((l0.length:Int) == (l1.length:Int))=true:=beq_iff_eq.mpr c3
  have c3b1:((l0.length:Int) != (l1.length:Int))=false:=bne_eq_false_iff_eq.mpr c3
  have c3b2:(l0.length == l1.length)=true:=by first|simpa using c3|(simp at c3 ⊢;omega)
  clear c3
  have H':=Aside0.mk H
  clear H
  go_enter Tryd.func50,Tryd.ntmps50
  go_wp2
  repeat (go_quiet (fail);try go_wp2)
  go_loopg [5] k (fun kq v5 w'=>∃ (x5_1:Int),v5=.int .i64 x5_1∧Aside0 (r01_Texts.l0 kq l0 l1 x5_1=some r)∧Aside0 (kq≤k)∧Drawn0 w w')
  case atStart=>exact ⟨(0),(by first|rfl|(simp;done)|(simp [*];done)),H',⟨Nat.le_refl _⟩,by repeat (first|exact Drawn0.refl _|apply Drawn0.step)⟩
  case round =>
   clear H'
   try clear c1
   try clear p2
   try clear c3
   try clear c3b0
   try clear c3b1
   try clear c3b2
   obtain ⟨x5_1,rfl,HA,HK1,⟨m1,rfl⟩⟩:=hrel
   cases gk with
   | zero=>exact absurd HA.out (by simp [r01_Texts.l0])
   | succ k1 =>
    have H:=HA.out
    clear HA
    simp only [r01_Texts.l0] at H
    by_cases c4:x5_1<(l0.length:Int)
    ·rw [if_pos c4] at H
     have c4b0:decide (x5_1<(l0.length:Int))=true:=decide_eq_true c4
     clear c4
     by_cases c5:0≤x5_1
     ·rw [if_pos c5] at H
      have c5b0:decide (0≤x5_1)=true:=decide_eq_true c5
      clear c5
      by_cases c6:x5_1<(l1.length:Int)
      ·rw [if_pos c6] at H
       have c6b0:decide (x5_1<(l1.length:Int))=true:=decide_eq_true c6
       clear c6
       by_cases c7:(rdOf ByteArray.empty l0 x5_1).toList=(rdOf ByteArray.empty l1 x5_1).toList
       ·rw [if_pos c7] at H
        have c7b0:((rdOf ByteArray.empty l0 x5_1).toList == (rdOf ByteArray.empty l1 x5_1).toList)=true:=beq_iff_eq.mpr c7
        have c7b1:((rdOf ByteArray.empty l0 x5_1).toList != (rdOf ByteArray.empty l1 x5_1).toList)=false:=bne_eq_false_iff_eq.mpr c7
        clear c7
        have H':=Aside0.mk H
        clear H
        have p141:0≤(x5_1:Int):=of_decide_eq_true (by first|(with_reducible assumption)|assumption)
        have q141:x5_1<(l0.length:Int):=of_decide_eq_true (by first|(with_reducible assumption)|assumption)
        obtain ⟨ad141,e141,hx141_0⟩:=Kd.at_string HR0.out x5_1 p141 q141
        cases e141
        replace p141:=eq_true p141
        replace q141:=eq_true q141
        have p142:0≤(x5_1:Int):=of_decide_eq_true (by first|(with_reducible assumption)|assumption)
        have q142:x5_1<(l1.length:Int):=of_decide_eq_true (by first|(with_reducible assumption)|assumption)
        obtain ⟨ad142,e142,hx142_0⟩:=Kd.at_string HR1.out x5_1 p142 q142
        cases e142
        replace p142:=eq_true p142
        replace q142:=eq_true q142
        go_wp2
        repeat (go_quiet (fail);try go_wp2)
        go_roundg k1
        case measure=>have:=HK1.out;omega
        case rel=>exact ⟨(wrap64 (x5_1+1)),(by first|rfl|(simp;done)|(simp [*];done)),H',⟨by have:=HK1.out;omega⟩,by repeat (first|exact Drawn0.refl _|apply Drawn0.step)⟩
       ·rw [if_neg c7] at H
        have c7b0:((rdOf ByteArray.empty l0 x5_1).toList == (rdOf ByteArray.empty l1 x5_1).toList)=false:=beq_eq_false_iff_ne.mpr c7
        have c7b1:((rdOf ByteArray.empty l0 x5_1).toList != (rdOf ByteArray.empty l1 x5_1).toList)=true:=bne_iff_ne.mpr c7
        obtain rfl:=Option.some.inj H
        have p141:0≤(x5_1:Int):=of_decide_eq_true (by first|(with_reducible assumption)|assumption)
        have q141:x5_1<(l0.length:Int):=of_decide_eq_true (by first|(with_reducible assumption)|assumption)
        obtain ⟨ad141,e141,hx141_0⟩:=Kd.at_string HR0.out x5_1 p141 q141
        cases e141
        replace p141:=eq_true p141
        replace q141:=eq_true q141
        have p142:0≤(x5_1:Int):=of_decide_eq_true (by first|(with_reducible assumption)|assumption)
        have q142:x5_1<(l1.length:Int):=of_decide_eq_true (by first|(with_reducible assumption)|assumption)
        obtain ⟨ad142,e142,hx142_0⟩:=Kd.at_string HR1.out x5_1 p142 q142
        cases e142
        replace p142:=eq_true p142
        replace q142:=eq_true q142
        go_wp2
        repeat (go_quiet (fail);try go_wp2)
        go_ret
        exact ⟨by first|rfl|(simp;done)|(simp [*];done),by repeat (first|exact Drawn0.refl _|apply Drawn0.step)⟩
      ·rw [if_neg c6] at H
       exact absurd H (by simp)
     ·rw [if_neg c5] at H
      exact absurd H (by simp)
    ·rw [if_neg c4] at H
     have c4b0:decide (x5_1<(l0.length:Int))=false:=decide_eq_false c4
     clear c4
     obtain rfl:=Option.some.inj H
     go_wp2
     repeat (go_quiet (fail);try go_wp2)
     go_ret
     exact ⟨by first|rfl|(simp;done)|(simp [*];done),by repeat (first|exact Drawn0.refl _|apply Drawn0.step)⟩
 ·rw [if_neg c3] at H
  have c3b0:((l0.length:Int) == (l1.length:Int))=false:=beq_eq_false_iff_ne.mpr c3
  have c3b1:((l0.length:Int) != (l1.length:Int))=true:=bne_iff_ne.mpr c3
  have c3b2:(l0.length == l1.length)=false:=by first|simpa using c3|(simp at c3 ⊢;omega)
  obtain rfl:=Option.some.inj H
  go_enter Tryd.func50,Tryd.ntmps50
  go_wp2
  repeat (go_quiet (fail);try go_wp2)
  go_ret
  exact ⟨by first|rfl|(simp;done)|(simp [*];done),by repeat (first|exact Drawn0.refl _|apply Drawn0.step)⟩

end Go.Proofs.YtamojbfmphainaaDoor.Pr
-- shrunk
/-
Equality of two lists of texts, as the printed function has it, in plain Lean.
-/
namespace Go.Proofs.YtamojbfmphainaaDoor.Pr
open Go.RowKit Go.Proofs.YtamojbfmphainaaDoorW.PrintWords Go.Proofs.YtamojbfmphainaaDoorW.PrintLast Go.Proofs.YtamojbfmphainaaDoorW.PrintMore
theorem w_succ {i n:Nat} (h:i<n) (hn:n≤4611686018427387904):wrap64 ((i:Int)+1)=((i+1:Nat):Int):=by unfold wrap64;omega
theorem w_in {x:Int} (h0:-9223372036854775808≤x) (h1:x≤9223372036854775807):wrap64 x=x:=by unfold wrap64;omega
theorem rdS_at {xs:List ByteArray} {i:Nat} (h:i<xs.length):rdOf ByteArray.empty xs (i:Int)=xs[i]:=by
 rw [rdOf,Int.toNat_natCast,List.getD_eq_getElem?_getD,List.getElem?_eq_getElem h,Option.getD_some]
theorem toList_iff (x y:ByteArray):x.toList=y.toList ↔ x=y:=by
 have:=Lib.bytes_beq_iff x y
 rwa [beq_iff_eq] at this
theorem Ev.none_of {α:Type} {g:Nat→Option α} {r:α} (h:∀ k,g k=some r):Ev g r:=⟨0,fun k _=>h k⟩
theorem drop_eq_iff {α:Type} {a b:List α} {i:Nat} (h0:i<a.length) (h1:i<b.length):a.drop i=b.drop i ↔ a[i]=b[i]∧a.drop (i+1)=b.drop (i+1):=by
 rw [List.drop_eq_getElem_cons h0,List.drop_eq_getElem_cons h1,List.cons.injEq]
theorem Texts_l0 (a b:List ByteArray) (hl:a.length=b.length) (hn:a.length≤4611686018427387904):∀ d i,a.length - i=d→i≤a.length→Ev (fun k=>r01_Texts.l0 k a b (i:Int)) (decide (a.drop i=b.drop i)):=by
 intro d
 induction d with
 | zero =>
  intro i hd hi
  refine Ev.step (fun _=>r01_Texts.l0.eq_2 ..) ?_
  simp only [if_neg (show ¬ (i:Int)<(a.length:Int) by omega)]
  rw [List.drop_of_length_le (by omega),List.drop_of_length_le (by omega)]
  exact Ev.now _
 | succ d ih =>
  intro i hd hi
  refine Ev.step (fun _=>r01_Texts.l0.eq_2 ..) ?_
  have h0:i<a.length:=by omega
  have h1:i<b.length:=by omega
  simp only [if_pos (show (i:Int)<(a.length:Int) by omega),if_pos (show 0≤(i:Int) by omega),if_pos (show (i:Int)<(b.length:Int) by omega),rdS_at h0,rdS_at h1,toList_iff,w_succ h0 hn]
  by_cases he:a[i]=b[i]
  ·simp only [if_pos he]
   have h:=ih (i+1) (by omega) (by omega)
   have e:decide (a.drop (i+1)=b.drop (i+1))=decide (a.drop i=b.drop i):=decide_eq_decide.2 (by rw [drop_eq_iff h0 h1];simp [he])
   rw [e] at h
   exact h
  ·simp only [if_neg he]
   have e:decide (a.drop i=b.drop i)=false:=decide_eq_false (by rw [drop_eq_iff h0 h1];simp [he])
   rw [e]
   exact Ev.now _
theorem Texts_ev (a b:List ByteArray) (hn:a.length≤4611686018427387904):Ev (fun k=>r01_Texts.f k a b) (decide (a=b)):=by
 unfold r01_Texts.f
 by_cases hl:a.length=b.length
 ·simp only [if_pos (show (a.length:Int)=(b.length:Int) by omega)]
  have h:=Texts_l0 a b hl hn _ 0 rfl (by omega)
  simpa using h
 ·simp only [if_neg (show ¬ (a.length:Int)=(b.length:Int) by omega)]
  rw [decide_eq_false (fun h=>hl (by rw [h]))]
  exact Ev.now _
end Go.Proofs.YtamojbfmphainaaDoor.Pr
-- shrunk
-- written by a program of this session's (a turned copy of the kit's printer); Lean checks it
namespace Go.Proofs.YtamojbfmphainaaDoor.Pr
open Go.RowKit Go.Proofs.YtamojbfmphainaaDoorW.PrintWords Go.Proofs.YtamojbfmphainaaDoorW.PrintLast Go.Proofs.YtamojbfmphainaaDoorW.PrintMore
attribute [local go_sem] max2_int min2_int max_two min_two max_three min_three max_four min_four   -- for this text's walks alone

def stringslite_HasSuffix.f (a0:ByteArray) (a1:ByteArray):Option (Bool):=if (a0.size:Int) ≥ (a1.size:Int) then (if 0≤(wrap64 ((a0.size:Int) - (a1.size:Int))) then (if (wrap64 ((a0.size:Int) - (a1.size:Int)))≤(a0.size:Int) then (some ((a0.extract ((wrap64 ((a0.size:Int) - (a1.size:Int))):Int).toNat a0.size).toList == a1.toList)) else (none)) else (none)) else (some false)
set_option maxHeartbeats 8000000 in
set_option maxRecDepth 100000 in
theorem stringslite_HasSuffix.calls (a0:ByteArray) (a1:ByteArray) (r:Bool) (w:World) (h:stringslite_HasSuffix.f a0 a1=some r) :
  Calls Tryd.prog 74 #[.string a0,.string a1] w fun e w'=>e=.returned (.bool r)∧Drawn0 w w':=by
 have H:(if (a0.size:Int) ≥ (a1.size:Int) then (if 0≤(wrap64 ((a0.size:Int) - (a1.size:Int))) then (if (wrap64 ((a0.size:Int) - (a1.size:Int)))≤(a0.size:Int) then (some ((a0.extract ((wrap64 ((a0.size:Int) - (a1.size:Int))):Int).toNat a0.size).toList == a1.toList)) else (none)) else (none)) else (some false))=some r:=h
 clear h
 by_cases c3:(a0.size:Int) ≥ (a1.size:Int)
 ·rw [if_pos c3] at H
  have c3b0:decide ((a1.size:Int)≤(a0.size:Int))=true:=decide_eq_true c3
  have c3b1:decide (a1.size≤a0.size)=true:=decide_eq_true (Int.ofNat_le.mp c3)
  clear c3
  obtain ⟨ji4,hji4⟩:∃ j_:Int,(wrap64 ((a0.size:Int) - (a1.size:Int)))=j_:=⟨_,rfl⟩
  replace H:(if 0≤(ji4) then (if (ji4)≤(a0.size:Int) then (some ((a0.extract ((ji4):Int).toNat a0.size).toList == a1.toList)) else (none)) else (none))=some r:=by first|(rw [hji4] at H;exact H)|(simp only [hji4] at H ⊢;exact H)
  have hji4w:(IntKind.i64.wrap ((a0.size:Int) - (a1.size:Int)))=ji4:=(i64_w _).trans hji4
  by_cases c5:0≤(ji4)
  ·rw [if_pos c5] at H
   have c5b0:=eq_true c5
   have c5b1:decide (0≤(ji4))=true:=decide_eq_true c5
   clear c5
   by_cases c6:(ji4)≤(a0.size:Int)
   ·rw [if_pos c6] at H
    have c6b0:=eq_true c6
    have c6b1:decide ((ji4)≤(a0.size:Int))=true:=decide_eq_true c6
    clear c6
    obtain rfl:=Option.some.inj H
    go_enter Tryd.func74,Tryd.ntmps74
    go_wp2
    go_ret
    exact ⟨by first|rfl|(simp;done)|(simp only [← hji4]<;>(first|rfl|simp))|(simp [*];done),by repeat (first|exact Drawn0.refl _|apply Drawn0.step)⟩
   ·rw [if_neg c6] at H
    exact absurd H (by simp)
  ·rw [if_neg c5] at H
   exact absurd H (by simp)
 ·rw [if_neg c3] at H
  have c3b0:decide ((a1.size:Int)≤(a0.size:Int))=false:=decide_eq_false c3
  have c3b1:decide (a1.size≤a0.size)=false:=decide_eq_false (fun h=>c3 (Int.ofNat_le.mpr h))
  clear c3
  obtain rfl:=Option.some.inj H
  go_enter Tryd.func74,Tryd.ntmps74
  go_wp2
  go_ret
  exact ⟨by first|rfl|(simp;done)|(simp [*];done),by repeat (first|exact Drawn0.refl _|apply Drawn0.step)⟩

end Go.Proofs.YtamojbfmphainaaDoor.Pr
-- shrunk
-- written by a program of this session's (a turned copy of the kit's printer); Lean checks it
namespace Go.Proofs.YtamojbfmphainaaDoor.Pr
open Go.RowKit Go.Proofs.YtamojbfmphainaaDoorW.PrintWords Go.Proofs.YtamojbfmphainaaDoorW.PrintLast Go.Proofs.YtamojbfmphainaaDoorW.PrintMore
attribute [local go_sem] max2_int min2_int max_two min_two max_three min_three max_four min_four   -- for this text's walks alone

def strings_HasSuffix.f (a0:ByteArray) (a1:ByteArray):Option (Bool):=(stringslite_HasSuffix.f a0 a1).bind fun t139=>(some t139)
set_option maxHeartbeats 8000000 in
set_option maxRecDepth 100000 in
theorem strings_HasSuffix.calls (a0:ByteArray) (a1:ByteArray) (r:Bool) (w:World) (h:strings_HasSuffix.f a0 a1=some r) :
  Calls Tryd.prog 56 #[.string a0,.string a1] w fun e w'=>e=.returned (.bool r)∧Drawn0 w w':=by
 have H:((stringslite_HasSuffix.f a0 a1).bind fun t139=>(some t139))=some r:=h
 clear h
 replace H:=Option.bind_eq_some_iff.mp H
 obtain ⟨t139,A30,H⟩:=H
 replace H:(some t139)=some r:=H
 have A3:=Aside0.mk A30
 clear A30
 obtain rfl:=Option.some.inj H
 go_enter Tryd.func56,Tryd.ntmps56
 go_wp2_with (first|((with_reducible refine gate_callee (f:=74) rfl ?_);refine goesL_ (some 7) rfl rfl Tryd.func74 (by kernel_rfl) rfl #[.string a0,.string a1] rfl (by (try simp only [List.map_toArray,List.map_cons,List.map_nil]);first|done|rfl|(simp only [List.length_drop,List.length_take];rfl)) ?_;(with_reducible refine (stringslite_HasSuffix.calls a0 a1 t139 _ A3.out).mono ?_);rintro e w' ⟨rfl,⟨nd,rfl⟩⟩;refine ⟨_,rfl,?_⟩))
 go_ret
 exact ⟨by first|rfl|(simp;done)|(simp [*];done),by repeat (first|exact Drawn0.refl _|apply Drawn0.step)⟩

end Go.Proofs.YtamojbfmphainaaDoor.Pr
-- shrunk
-- written by a program of this session's (a turned copy of the kit's printer); Lean checks it
namespace Go.Proofs.YtamojbfmphainaaDoor.Pr
open Go.RowKit Go.Proofs.YtamojbfmphainaaDoorW.PrintWords Go.Proofs.YtamojbfmphainaaDoorW.PrintLast Go.Proofs.YtamojbfmphainaaDoorW.PrintMore
attribute [local go_sem] max2_int min2_int max_two min_two max_three min_three max_four min_four   -- for this text's walks alone

def lines_Closed.f (a0:ByteArray):Option (Bool):=if a0.toList=([]:List UInt8) then (some true) else ((strings_HasSuffix.f a0 (⟨#[10]⟩:ByteArray)).bind fun t140=>(some t140))
set_option maxHeartbeats 8000000 in
set_option maxRecDepth 100000 in
theorem lines_Closed.calls (a0:ByteArray) (r:Bool) (w:World) (h:lines_Closed.f a0=some r) :
  Calls Tryd.prog 25 #[.string a0] w fun e w'=>e=.returned (.bool r)∧Drawn0 w w':=by
 have H:(if a0.toList=([]:List UInt8) then (some true) else ((strings_HasSuffix.f a0 (⟨#[10]⟩:ByteArray)).bind fun t140=>(some t140)))=some r:=h
 clear h
 by_cases c2:a0.toList=([]:List UInt8)
 ·rw [if_pos c2] at H
  have c2b0:(a0.toList == ([]:List UInt8))=true:=beq_iff_eq.mpr c2
  have c2b1:(a0.toList != ([]:List UInt8))=false:=bne_eq_false_iff_eq.mpr c2
  clear c2
  obtain rfl:=Option.some.inj H
  go_enter Tryd.func25,Tryd.ntmps25
  go_wp2
  go_ret
  exact ⟨by first|rfl|(simp;done)|(simp [*];done),by repeat (first|exact Drawn0.refl _|apply Drawn0.step)⟩
 ·rw [if_neg c2] at H
  have c2b0:(a0.toList == ([]:List UInt8))=false:=beq_eq_false_iff_ne.mpr c2
  have c2b1:(a0.toList != ([]:List UInt8))=true:=bne_iff_ne.mpr c2
  replace H:=Option.bind_eq_some_iff.mp H
  obtain ⟨t140,A30,H⟩:=H
  replace H:(some t140)=some r:=H
  have A3:=Aside0.mk A30
  clear A30
  obtain rfl:=Option.some.inj H
  go_enter Tryd.func25,Tryd.ntmps25
  go_wp2_with (first|(go_at_call 56;(with_reducible refine (strings_HasSuffix.calls a0 (⟨#[10]⟩:ByteArray) t140 _ A3.out).mono ?_);rintro e w' ⟨rfl,⟨nd,rfl⟩⟩))
  go_ret
  exact ⟨by first|rfl|(simp;done)|(simp [*];done),by repeat (first|exact Drawn0.refl _|apply Drawn0.step)⟩










end Go.Proofs.YtamojbfmphainaaDoor.Pr
-- shrunk
-- written by a program of this session's (a turned copy of the kit's printer); Lean checks it
namespace Go.Proofs.YtamojbfmphainaaDoor.Pr
open Go.RowKit Go.Proofs.YtamojbfmphainaaDoorW.PrintWords Go.Proofs.YtamojbfmphainaaDoorW.PrintLast Go.Proofs.YtamojbfmphainaaDoorW.PrintMore
attribute [local go_sem] max2_int min2_int max_two min_two max_three min_three max_four min_four   -- for this text's walks alone

def r03_Closed.f (a0:ByteArray):Option (Bool):=if (a0.size:Int)=0 then (some true) else (if 0≤(wrap64 ((a0.size:Int) - 1)) then (if (wrap64 ((a0.size:Int) - 1))<(a0.size:Int) then (some ((bt a0 (wrap64 ((a0.size:Int) - 1))) == 10)) else (none)) else (none))
set_option maxHeartbeats 8000000 in
set_option maxRecDepth 100000 in
theorem r03_Closed.calls (a0:ByteArray) (r:Bool) (w:World) (h:r03_Closed.f a0=some r) :
  Calls Tryd.prog 29 #[.string a0] w fun e w'=>e=.returned (.bool r)∧Drawn0 w w':=by
 have H:(if (a0.size:Int)=0 then (some true) else (if 0≤(wrap64 ((a0.size:Int) - 1)) then (if (wrap64 ((a0.size:Int) - 1))<(a0.size:Int) then (some ((bt a0 (wrap64 ((a0.size:Int) - 1))) == 10)) else (none)) else (none)))=some r:=h
 clear h
 by_cases c2:(a0.size:Int)=0
 ·rw [if_pos c2] at H
  have c2b0:((a0.size:Int) == 0)=true:=beq_iff_eq.mpr c2
  have c2b1:((a0.size:Int) != 0)=false:=bne_eq_false_iff_eq.mpr c2
  clear c2
  obtain rfl:=Option.some.inj H
  go_enter Tryd.func29,Tryd.ntmps29
  go_wp2
  go_ret
  exact ⟨by first|rfl|(simp;done)|(simp [*];done),by repeat (first|exact Drawn0.refl _|apply Drawn0.step)⟩
 ·rw [if_neg c2] at H
  have c2b0:((a0.size:Int) == 0)=false:=beq_eq_false_iff_ne.mpr c2
  have c2b1:((a0.size:Int) != 0)=true:=bne_iff_ne.mpr c2
  obtain ⟨ji3,hji3⟩:∃ j_:Int,(wrap64 ((a0.size:Int) - 1))=j_:=⟨_,rfl⟩
  replace H:(if 0≤(ji3) then (if (ji3)<(a0.size:Int) then (some ((bt a0 (ji3)) == 10)) else (none)) else (none))=some r:=by first|(rw [hji3] at H;exact H)|(simp only [hji3] at H ⊢;exact H)
  have hji3w:(IntKind.i64.wrap ((a0.size:Int) - 1))=ji3:=(i64_w _).trans hji3
  by_cases c4:0≤(ji3)
  ·rw [if_pos c4] at H
   have c4b0:decide (0≤(ji3))=true:=decide_eq_true c4
   clear c4
   by_cases c5:(ji3)<(a0.size:Int)
   ·rw [if_pos c5] at H
    have c5b0:decide ((ji3)<(a0.size:Int))=true:=decide_eq_true c5
    clear c5
    obtain rfl:=Option.some.inj H
    have p6:0≤((ji3):Int):=of_decide_eq_true (by first|(with_reducible assumption)|assumption)
    have q6:(ji3)<(a0.size:Int):=of_decide_eq_true (by first|(with_reducible assumption)|assumption)
    have hx6:=bt_at a0 (ji3)
    replace p6:=eq_true p6
    replace q6:=eq_true q6
    go_enter Tryd.func29,Tryd.ntmps29
    go_wp2
    go_ret
    exact ⟨by first|rfl|(simp;done)|(simp only [← hji3]<;>(first|rfl|simp))|(simp [*];done),by repeat (first|exact Drawn0.refl _|apply Drawn0.step)⟩
   ·rw [if_neg c5] at H
    exact absurd H (by simp)
  ·rw [if_neg c4] at H
   exact absurd H (by simp)

end Go.Proofs.YtamojbfmphainaaDoor.Pr
-- shrunk
-- written by a program of this session's (a turned copy of the kit's printer); Lean checks it
namespace Go.Proofs.YtamojbfmphainaaDoor.Pr
open Go.RowKit Go.Proofs.YtamojbfmphainaaDoorW.PrintWords Go.Proofs.YtamojbfmphainaaDoorW.PrintLast Go.Proofs.YtamojbfmphainaaDoorW.PrintMore
attribute [local go_sem] max2_int min2_int max_two min_two max_three min_three max_four min_four   -- for this text's walks alone

def r03_Split.l0:Nat→ByteArray→List ByteArray→Bool→Int→Option (List ByteArray)
 | 0,_,_,_,_=>none
 | k+1,x0,x3,x4,x5=>if x5<(x0.size:Int) then (if x4=true then (if 0≤(wrap64 ((x3.length:Int) - 1)) then (if (wrap64 ((x3.length:Int) - 1))<(x3.length:Int) then (if 0≤x5 then (if x5≤(wrap64 (x5+1)) then (if (wrap64 (x5+1))≤(x0.size:Int) then (if (rdOf ByteArray.empty x3 (wrap64 ((x3.length:Int) - 1))).size+(x0.extract (x5:Int).toNat ((wrap64 (x5+1)):Int).toNat).size≤9223372036854775807 then (r03_Split.l0 k x0 (x3.set ((wrap64 ((x3.length:Int) - 1)):Int).toNat ((rdOf ByteArray.empty x3 (wrap64 ((x3.length:Int) - 1)))++(x0.extract (x5:Int).toNat ((wrap64 (x5+1)):Int).toNat))) ((bt x0 x5) != 10) (wrap64 (x5+1))) else (none)) else (none)) else (none)) else (none)) else (none)) else (none)) else (if x3.length<8796093022208 then ((some (x3++[(⟨#[]⟩:ByteArray)]:List ByteArray)).bind fun y193=>(if 0≤(wrap64 ((y193.length:Int) - 1)) then (if (wrap64 ((y193.length:Int) - 1))<(y193.length:Int) then (if 0≤x5 then (if x5≤(wrap64 (x5+1)) then (if (wrap64 (x5+1))≤(x0.size:Int) then (if (rdOf ByteArray.empty y193 (wrap64 ((y193.length:Int) - 1))).size+(x0.extract (x5:Int).toNat ((wrap64 (x5+1)):Int).toNat).size≤9223372036854775807 then (r03_Split.l0 k x0 (y193.set ((wrap64 ((y193.length:Int) - 1)):Int).toNat ((rdOf ByteArray.empty y193 (wrap64 ((y193.length:Int) - 1)))++(x0.extract (x5:Int).toNat ((wrap64 (x5+1)):Int).toNat))) ((bt x0 x5) != 10) (wrap64 (x5+1))) else (none)) else (none)) else (none)) else (none)) else (none)) else (none))) else (none))) else (some x3)
def r03_Split.f (k:Nat) (a0:ByteArray):Option (List ByteArray):=r03_Split.l0 k a0 ([]:List ByteArray) false 0
def r03_Split.T8:Bool × List (List Nat × List Nat):=(true,[([],[]),([],[]),([1],[1]),([2],[2]),([],[]),([],[]),([5],[5]),([6],[6]),([4,7],[4,7]),([8],[8]),([],[]),([],[]),([],[]),([12],[12]),([10,11,13],[10,11,13]),([9,14],[9,14]),([0,3,0,1,2,3,4,5,6,7,8,9,10,11,12,13,14,15],[0,3]),([16,15,0,1,2,3,4,5,6,7,8,9,10,11,12,13,14,15],[15,16])])
def r03_Split.B8:List Nat:=[0,0,2,6,0,0,32,96,240,496,0,0,0,4096,15360,32752,65535,131071]
theorem r03_Split.tab8:rtab .any (opsOf Tryd.f34 8)=r03_Split.T8:=by kernel_rfl
theorem r03_Split.bits8:waitsOk r03_Split.T8.2 r03_Split.B8=true:=by kernel_rfl
set_option maxHeartbeats 8000000 in
set_option maxRecDepth 100000 in
theorem r03_Split.calls (k:Nat) (a0:ByteArray) (r:List ByteArray) (w:World) (h:r03_Split.f k a0=some r) :
  Calls Tryd.prog 34 #[.string a0] w fun e w'=>∃ v0_:Value,e=.returned (v0_)∧Kd.R Kd.string 9 w' w.heap.size (fun _=>True) v0_ r∧Below w.heap.size w w':=by
 have HB:=Aside0.mk (Below.refl w.heap.size w)
 have H:(r03_Split.l0 k a0 ([]:List ByteArray) false 0)=some r:=h
 clear h
 have H':=Aside0.mk H
 clear H
 go_enter Tryd.func34,Tryd.ntmps34
 go_wp2
 go_loopg [3,4,5] k (fun kq v3 v4 v5 w'=>∃ (x3_1:List ByteArray) (x4_1:Bool) (x5_1:Int),v4=.bool x4_1∧v5=.int .i64 x5_1∧Aside0 (r03_Split.l0 kq a0 x3_1 x4_1 x5_1=some r)∧Aside0 (kq≤k)∧Aside0 (Kd.R Kd.string 9 w' w.heap.size (fun _=>True) v3 x3_1)∧Aside0 (Below w.heap.size w w'))
 case atStart=>exact ⟨(([]:List ByteArray)),(false),(0),(by first|rfl|(simp;done)|(simp [*];done)),(by first|rfl|(simp;done)|(simp [*];done)),H',⟨Nat.le_refl _⟩,⟨by first|exact Kd.R_nil _ _ _ _ _|exact Kd.N_nil _ _ _ _ _|exact Kd.V_nil _ _ _ _ _|exact Kd.Q_nil _ _ _ _ _|exact Kd.S_nil _ _ _ _ _⟩,⟨by repeat (first|(with_reducible first|exact HB.out|apply below_alloc|apply pw_below_drewN|apply below_drew1)|exact HB.out)⟩⟩
 case round =>
  clear H'
  obtain ⟨x3_1,x4_1,x5_1,rfl,rfl,HA,HK1,HO_3,HB⟩:=hrel
  cases gk with
  | zero=>exact absurd HA.out (by simp [r03_Split.l0])
  | succ k1 =>
   have H:=HA.out
   clear HA
   simp only [r03_Split.l0] at H
   by_cases c2:x5_1<(a0.size:Int)
   ·rw [if_pos c2] at H
    have c2b0:decide (x5_1<(a0.size:Int))=true:=decide_eq_true c2
    clear c2
    by_cases c3:x4_1=true
    ·subst c3
     have H1:(if 0≤(wrap64 ((x3_1.length:Int) - 1)) then (if (wrap64 ((x3_1.length:Int) - 1))<(x3_1.length:Int) then (if 0≤x5_1 then (if x5_1≤(wrap64 (x5_1+1)) then (if (wrap64 (x5_1+1))≤(a0.size:Int) then (if (rdOf ByteArray.empty x3_1 (wrap64 ((x3_1.length:Int) - 1))).size+(a0.extract (x5_1:Int).toNat ((wrap64 (x5_1+1)):Int).toNat).size≤9223372036854775807 then (r03_Split.l0 k1 a0 (x3_1.set ((wrap64 ((x3_1.length:Int) - 1)):Int).toNat ((rdOf ByteArray.empty x3_1 (wrap64 ((x3_1.length:Int) - 1)))++(a0.extract (x5_1:Int).toNat ((wrap64 (x5_1+1)):Int).toNat))) ((bt a0 x5_1) != 10) (wrap64 (x5_1+1))) else (none)) else (none)) else (none)) else (none)) else (none)) else (none))=some r:=by rw [if_pos rfl] at H;exact H
     clear H
     have H:=H1
     clear H1
     obtain ⟨ji4,hji4⟩:∃ j_:Int,(wrap64 ((x3_1.length:Int) - 1))=j_:=⟨_,rfl⟩
     replace H:(if 0≤(ji4) then (if (ji4)<(x3_1.length:Int) then (if 0≤x5_1 then (if x5_1≤(wrap64 (x5_1+1)) then (if (wrap64 (x5_1+1))≤(a0.size:Int) then (if (rdOf ByteArray.empty x3_1 (ji4)).size+(a0.extract (x5_1:Int).toNat ((wrap64 (x5_1+1)):Int).toNat).size≤9223372036854775807 then (r03_Split.l0 k1 a0 (x3_1.set ((ji4):Int).toNat ((rdOf ByteArray.empty x3_1 (ji4))++(a0.extract (x5_1:Int).toNat ((wrap64 (x5_1+1)):Int).toNat))) ((bt a0 x5_1) != 10) (wrap64 (x5_1+1))) else (none)) else (none)) else (none)) else (none)) else (none)) else (none))=some r:=by first|(rw [hji4] at H;exact H)|(simp only [hji4] at H ⊢;exact H)
     have hji4w:(IntKind.i64.wrap ((x3_1.length:Int) - 1))=ji4:=(i64_w _).trans hji4
     by_cases c5:0≤(ji4)
     ·rw [if_pos c5] at H
      have c5b0:decide (0≤(ji4))=true:=decide_eq_true c5
      clear c5
      by_cases c6:(ji4)<(x3_1.length:Int)
      ·rw [if_pos c6] at H
       have c6b0:decide ((ji4)<(x3_1.length:Int))=true:=decide_eq_true c6
       clear c6
       by_cases c7:0≤x5_1
       ·rw [if_pos c7] at H
        have c7b0:=eq_true c7
        have c7b1:decide (0≤x5_1)=true:=decide_eq_true c7
        clear c7
        by_cases c8:x5_1≤(wrap64 (x5_1+1))
        ·rw [if_pos c8] at H
         have c8b0:=eq_true c8
         have c8b1:decide (x5_1≤(wrap64 (x5_1+1)))=true:=decide_eq_true c8
         by_cases c9:(wrap64 (x5_1+1))≤(a0.size:Int)
         ·rw [if_pos c9] at H
          have c9b0:=eq_true c9
          have c9b1:decide ((wrap64 (x5_1+1))≤(a0.size:Int))=true:=decide_eq_true c9
          by_cases c10:(rdOf ByteArray.empty x3_1 (ji4)).size+(a0.extract (x5_1:Int).toNat ((wrap64 (x5_1+1)):Int).toNat).size≤9223372036854775807
          ·rw [if_pos c10] at H
           have c10b0:=eq_true c10
           have c10b1:decide ((rdOf ByteArray.empty x3_1 (ji4)).size+(a0.extract (x5_1:Int).toNat ((wrap64 (x5_1+1)):Int).toNat).size≤9223372036854775807)=true:=decide_eq_true c10
           try have c10b2:(9223372036854775807<(rdOf ByteArray.empty x3_1 (ji4)).size+(a0.extract (x5_1:Int).toNat ((wrap64 (x5_1+1)):Int).toNat).size)=False:=eq_false (Nat.not_lt.2 c10)
           try have c10b3:(9223372036854775807<(rdOf ByteArray.empty x3_1 (ji4)).size+(((wrap64 (x5_1+1)):Int).toNat - (x5_1:Int).toNat))=False:=by have h_:=c10;rw [ByteArray.size_extract,Nat.min_eq_left (by omega)] at h_;exact eq_false (Nat.not_lt.2 h_)
           obtain ⟨y192,hy192⟩:∃ y_:List ByteArray,y_=(x3_1.set ((ji4):Int).toNat ((rdOf ByteArray.empty x3_1 (ji4))++(a0.extract (x5_1:Int).toNat ((wrap64 (x5_1+1)):Int).toNat))):=⟨_,rfl⟩
           replace H:(r03_Split.l0 k1 a0 y192 ((bt a0 x5_1) != 10) (wrap64 (x5_1+1)))=some r:=by first|(rw [hy192];with_reducible exact H)|(have H2_:=(Option.bind_some _ _).symm.trans H;rw [hy192];with_reducible exact H2_)|(have H2_:=(Option.bind_some _ _).symm.trans H;with_reducible exact H2_)|with_reducible exact H|(rw [hy192];exact H)|exact H
           have Ny192:=Aside0.mk hy192
           clear hy192
           have H':=Aside0.mk H
           clear H
           try go_wp2
           have n0_:=Aside0.mk (Kd.R_drew HO_3.out)
           have n1_:=Aside0.mk (below_drew1 HB.out)
           clear HO_3
           clear HB
           have HO_3:=n0_
           have HB:=n1_
           clear n0_ n1_
           obtain ⟨Ao14,co14,eo14⟩:=Kd.R_slice HO_3.out
           (first|subst eo14|(injection eo14 with f1_ f2_ f3_;have f4_:=f1_.symm;have f5_:=f3_.symm;clear f1_ f2_ f3_;subst f4_;subst f5_))
           have p191:0≤((ji4):Int):=of_decide_eq_true (by first|(with_reducible assumption)|assumption)
           have q191:(ji4)<(x3_1.length:Int):=of_decide_eq_true (by first|(with_reducible assumption)|assumption)
           obtain ⟨ad191,e191,hx191_0⟩:=Kd.at_string (Kd.R_reads' HO_3.out).2.2 (ji4) p191 q191
           cases e191
           replace p191:=eq_true p191
           replace q191:=eq_true q191
           have p11:0≤((ji4):Int):=of_decide_eq_true (by first|(with_reducible assumption)|assumption)
           have q11:((ji4):Int)<((x3_1.length:Int):Int):=of_decide_eq_true (by first|(with_reducible assumption)|assumption)
           obtain ⟨go11,co11,eo11,gb11,gl11,cl11,HG11⟩:=Kd.R_form HO_3.out (by omega)
           (first|cases eo11|(injection eo11 with ea_ en_ ec_;(first|subst ea_|(injection ea_ with ea_;subst ea_));subst ec_;clear en_))
           have GB11:=Aside0.mk gb11
           have GG11:=Aside0.mk HG11
           clear gb11 gl11 HG11
           (first|simp only [add_plain] at hx191_0|skip)
           obtain ⟨hx11_0,hf11_0⟩:=Kd.R_celln (⟨#[]⟩:ByteArray) HO_3.out ((ji4):Int) p11 q11
           replace p11:=eq_true p11
           replace q11:=eq_true q11
           have HP15:=Kd.R_putn HO_3.out ((ji4):Int) ((rdOf ByteArray.empty x3_1 (ji4))++(a0.extract (x5_1:Int).toNat ((wrap64 (x5_1+1)):Int).toNat))
           rw [← Ny192.out] at HP15
           have HQ15:=Aside0.mk HP15
           clear HP15
           refine start_ (n:=18) (S:=fun w'=>w'.cell? ⟨go11,((ji4)).toNat,none⟩=some (.string (rdOf ByteArray.empty x3_1 (ji4)))) (ds:=[17]) #[false,false,false,false,false,false,false,false,false,false,false,false,false,false,false,false,false,false] (by kernel_rfl) rfl rfl (hx191_0) (fun hHeld=>?_);refine with_tabW r03_Split.tab8 r03_Split.bits8 (fun HT_ HW_=>?_)
           generalize wr.drew=w13 at HO_3 HB GG11 HQ15 hf11_0 hx11_0 hx191_0 hHeld ⊢
           refine pure_ (i:=0) (N:=some 17) (v:=?_) (a':=?_) #[true,false,false,false,false,false,false,false,false,false,false,false,false,false,false,false,false,false] rfl rfl (any_of HT_.out (by kernel_rfl)) (fun _ _ _ h=>h) (Or.inl ⟨by rfl,?_⟩) ?_ ?_
           rotate_left
           ·intro w'
            go_simp
            with_reducible rfl
           rotate_left
           ·simp only [Act.put,List.setIfInBounds_toArray,List.set_cons_zero,List.set_cons_succ,i64_w,i32_w]
            rfl
           refine pure_ (i:=1) (N:=some 18) (v:=?_) (a':=?_) #[true,true,false,false,false,false,false,false,false,false,false,false,false,false,false,false,false,false] rfl rfl (any_of HT_.out (by kernel_rfl)) (fun _ _ _ h=>h) (Or.inl ⟨by rfl,?_⟩) ?_ ?_
           rotate_left
           ·intro w'
            go_simp
            with_reducible rfl
           rotate_left
           ·simp only [Act.put,List.setIfInBounds_toArray,List.set_cons_zero,List.set_cons_succ,i64_w,i32_w]
            rfl
           refine pure_ (i:=2) (N:=some 19) (v:=?_) (a':=?_) #[true,true,true,false,false,false,false,false,false,false,false,false,false,false,false,false,false,false] rfl rfl (any_of HT_.out (by kernel_rfl)) (fun _ _ _ h=>h) (Or.inl ⟨by rfl,?_⟩) ?_ ?_
           rotate_left
           ·intro w'
            go_simp
            with_reducible rfl
           rotate_left
           ·simp only [Act.put,List.setIfInBounds_toArray,List.set_cons_zero,List.set_cons_succ,i64_w,i32_w]
            rfl
           refine pure_ (i:=3) (N:=some 20) (v:=?_) (a':=?_) #[true,true,true,true,false,false,false,false,false,false,false,false,false,false,false,false,false,false] rfl rfl (any_of HT_.out (by kernel_rfl)) (fun _ _ _ h=>h) (Or.inl ⟨by rfl,?_⟩) ?_ ?_
           rotate_left
           ·intro w'
            go_simp
            with_reducible rfl
           rotate_left
           ·simp only [Act.put,List.setIfInBounds_toArray,List.set_cons_zero,List.set_cons_succ,i64_w,i32_w]
            rfl
           refine pure_ (i:=4) (N:=some 21) (v:=?_) (a':=?_) #[true,true,true,true,true,false,false,false,false,false,false,false,false,false,false,false,false,false] rfl rfl (any_of HT_.out (by kernel_rfl)) (fun _ _ _ h=>h) (Or.inl ⟨by rfl,?_⟩) ?_ ?_
           rotate_left
           ·intro w'
            go_simp
            with_reducible rfl
           rotate_left
           ·simp only [Act.put,List.setIfInBounds_toArray,List.set_cons_zero,List.set_cons_succ,i64_w,i32_w]
            rfl
           refine pure_ (i:=5) (N:=some 22) (v:=?_) (a':=?_) #[true,true,true,true,true,true,false,false,false,false,false,false,false,false,false,false,false,false] rfl rfl (any_of HT_.out (by kernel_rfl)) (fun _ _ _ h=>h) (Or.inl ⟨by rfl,?_⟩) ?_ ?_
           rotate_left
           ·intro w'
            go_simp
            with_reducible rfl
           rotate_left
           ·simp only [Act.put,List.setIfInBounds_toArray,List.set_cons_zero,List.set_cons_succ,i64_w,i32_w]
            rfl
           refine pure_ (i:=6) (N:=some 23) (v:=?_) (a':=?_) #[true,true,true,true,true,true,true,false,false,false,false,false,false,false,false,false,false,false] rfl rfl (any_of HT_.out (by kernel_rfl)) (fun _ _ _ h=>h) (Or.inl ⟨by rfl,?_⟩) ?_ ?_
           rotate_left
           ·intro w'
            go_simp
            with_reducible rfl
           rotate_left
           ·simp only [Act.put,List.setIfInBounds_toArray,List.set_cons_zero,List.set_cons_succ,i64_w,i32_w]
            rfl
           refine pure_ (i:=7) (N:=some 24) (v:=?_) (a':=?_) #[true,true,true,true,true,true,true,true,false,false,false,false,false,false,false,false,false,false] rfl rfl (any_of HT_.out (by kernel_rfl)) (fun _ _ _ h=>h) (Or.inl ⟨by rfl,?_⟩) ?_ ?_
           rotate_left
           ·intro w'
            go_simp
            with_reducible rfl
           rotate_left
           ·simp only [Act.put,List.setIfInBounds_toArray,List.set_cons_zero,List.set_cons_succ,i64_w,i32_w]
            rfl
           refine pure_ (i:=8) (N:=some 25) (v:=?_) (a':=?_) #[true,true,true,true,true,true,true,true,true,false,false,false,false,false,false,false,false,false] rfl rfl (any_of HT_.out (by kernel_rfl)) (fun _ _ _ h=>h) (Or.inl ⟨by rfl,?_⟩) ?_ ?_
           rotate_left
           ·intro w'
            go_simp
            with_reducible rfl
           rotate_left
           ·simp only [Act.put,List.setIfInBounds_toArray,List.set_cons_zero,List.set_cons_succ,i64_w,i32_w]
            rfl
           refine pure_ (i:=10) (N:=some 27) (v:=?_) (a':=?_) #[true,true,true,true,true,true,true,true,true,false,true,false,false,false,false,false,false,false] rfl rfl (any_of HT_.out (by kernel_rfl)) (fun _ _ _ h=>h) (Or.inl ⟨by rfl,?_⟩) ?_ ?_
           rotate_left
           ·intro w'
            go_simp
            with_reducible rfl
           rotate_left
           ·simp only [Act.put,List.setIfInBounds_toArray,List.set_cons_zero,List.set_cons_succ,i64_w,i32_w]
            rfl
           refine pure_ (i:=11) (N:=some 28) (v:=?_) (a':=?_) #[true,true,true,true,true,true,true,true,true,false,true,true,false,false,false,false,false,false] rfl rfl (any_of HT_.out (by kernel_rfl)) (fun _ _ _ h=>h) (Or.inl ⟨by rfl,?_⟩) ?_ ?_
           rotate_left
           ·intro w'
            go_simp
            with_reducible rfl
           rotate_left
           ·simp only [Act.put,List.setIfInBounds_toArray,List.set_cons_zero,List.set_cons_succ,i64_w,i32_w]
            rfl
           refine pure_ (i:=12) (N:=some 29) (v:=?_) (a':=?_) #[true,true,true,true,true,true,true,true,true,false,true,true,true,false,false,false,false,false] rfl rfl (any_of HT_.out (by kernel_rfl)) (fun _ _ _ h=>h) (Or.inl ⟨by rfl,?_⟩) ?_ ?_
           rotate_left
           ·intro w'
            go_simp
            with_reducible rfl
           rotate_left
           ·simp only [Act.put,List.setIfInBounds_toArray,List.set_cons_zero,List.set_cons_succ,i64_w,i32_w]
            rfl
           refine pure_ (i:=13) (N:=some 30) (v:=?_) (a':=?_) #[true,true,true,true,true,true,true,true,true,false,true,true,true,true,false,false,false,false] rfl rfl (any_of HT_.out (by kernel_rfl)) (fun _ _ _ h=>h) (Or.inl ⟨by rfl,?_⟩) ?_ ?_
           rotate_left
           ·intro w'
            go_simp
            with_reducible rfl
           rotate_left
           ·simp only [Act.put,List.setIfInBounds_toArray,List.set_cons_zero,List.set_cons_succ,i64_w,i32_w]
            rfl
           refine pure_ (i:=14) (N:=some 31) (v:=?_) (a':=?_) #[true,true,true,true,true,true,true,true,true,false,true,true,true,true,true,false,false,false] rfl rfl (any_of HT_.out (by kernel_rfl)) (fun _ _ _ h=>h) (Or.inl ⟨by rfl,?_⟩) ?_ ?_
           rotate_left
           ·intro w'
            go_simp
            with_reducible rfl
           rotate_left
           ·simp only [Act.put,List.setIfInBounds_toArray,List.set_cons_zero,List.set_cons_succ,i64_w,i32_w]
            rfl
           refine take_ (i:=9) (N:=some 26) (v:=?_) (a':=?_) #[true,true,true,true,true,true,true,true,true,true,true,true,true,true,true,false,false,false] rfl rfl (take_ofW HT_.out HW_.out (by kernel_rfl)) (fun _ _ _ h=>h) (Or.inl ⟨by rfl,?_⟩) hHeld ?_ ?_
           rotate_left
           ·intro w' s0
            go_simp
            with_reducible rfl
           rotate_left
           ·simp only [Act.put,List.setIfInBounds_toArray,List.set_cons_zero,List.set_cons_succ,i64_w,i32_w]
            rfl
           refine pure_ (i:=15) (N:=some 32) (v:=?_) (a':=?_) #[true,true,true,true,true,true,true,true,true,true,true,true,true,true,true,true,false,false] rfl rfl (any_of HT_.out (by kernel_rfl)) (fun _ _ _ h=>h) (Or.inl ⟨by rfl,?_⟩) ?_ ?_
           rotate_left
           ·intro w'
            go_simp
            with_reducible rfl
           rotate_left
           ·simp only [Act.put,List.setIfInBounds_toArray,List.set_cons_zero,List.set_cons_succ,i64_w,i32_w]
            rfl
           refine pure_ (i:=16) (N:=some 33) (v:=?_) (a':=?_) #[true,true,true,true,true,true,true,true,true,true,true,true,true,true,true,true,true,false] rfl rfl (any_of HT_.out (by kernel_rfl)) (fun _ _ _ h=>h) (Or.inl ⟨by rfl,?_⟩) ?_ ?_
           rotate_left
           ·intro w'
            go_simp
            with_reducible rfl
           rotate_left
           ·simp only [Act.put,List.setIfInBounds_toArray,List.set_cons_zero,List.set_cons_succ,i64_w,i32_w]
            rfl
           refine last_ (i:=17) (N:=none) #[true,true,true,true,true,true,true,true,true,true,true,true,true,true,true,true,true,true] rfl rfl (one_of HT_.out (by kernel_rfl)) (by decide) (fun K hK=>?_)
           refine skip_ (w1:=?_) (by rfl) rfl ?_ ?_
           rotate_left
           ·go_simp
            rfl
           refine hK.out _ _ ?_
           clear hK K
           refine done_ (done_of HT_.out (by kernel_rfl)) ?_
           have p12:0≤(x5_1:Int):=of_decide_eq_true (by first|(with_reducible assumption)|assumption)
           have q12:x5_1<(a0.size:Int):=of_decide_eq_true (by first|(with_reducible assumption)|assumption)
           have hx12:=bt_at a0 x5_1
           replace p12:=eq_true p12
           replace q12:=eq_true q12
           try go_wp2
           go_roundg k1
           case measure=>have:=HK1.out;omega
           case rel=>exact ⟨(y192),(((bt a0 x5_1) != 10)),(wrap64 (x5_1+1)),(by first|rfl|(simp;done)|(simp [*];done)),(by first|rfl|(simp;done)|(simp [*];done)),H',⟨by have:=HK1.out;omega⟩,⟨by (with_reducible repeat (first|apply Kd.R_alloc|apply Kd.R_drewN|apply Kd.R_drew));exact HQ15.out⟩,⟨by repeat (first|(with_reducible first|exact HB.out|apply below_alloc|apply pw_below_drewN|apply below_drew1|refine below_set ?_ GB11.out)|exact HB.out)⟩⟩
          ·rw [if_neg c10] at H
           exact absurd H (by simp)
         ·rw [if_neg c9] at H
          exact absurd H (by simp)
        ·rw [if_neg c8] at H
         exact absurd H (by simp)
       ·rw [if_neg c7] at H
        exact absurd H (by simp)
      ·rw [if_neg c6] at H
       exact absurd H (by simp)
     ·rw [if_neg c5] at H
      exact absurd H (by simp)
    ·replace c3:=Bool.eq_false_iff.mpr c3
     subst c3
     have H1:(if x3_1.length<8796093022208 then ((some (x3_1++[(⟨#[]⟩:ByteArray)]:List ByteArray)).bind fun y193=>(if 0≤(wrap64 ((y193.length:Int) - 1)) then (if (wrap64 ((y193.length:Int) - 1))<(y193.length:Int) then (if 0≤x5_1 then (if x5_1≤(wrap64 (x5_1+1)) then (if (wrap64 (x5_1+1))≤(a0.size:Int) then (if (rdOf ByteArray.empty y193 (wrap64 ((y193.length:Int) - 1))).size+(a0.extract (x5_1:Int).toNat ((wrap64 (x5_1+1)):Int).toNat).size≤9223372036854775807 then (r03_Split.l0 k1 a0 (y193.set ((wrap64 ((y193.length:Int) - 1)):Int).toNat ((rdOf ByteArray.empty y193 (wrap64 ((y193.length:Int) - 1)))++(a0.extract (x5_1:Int).toNat ((wrap64 (x5_1+1)):Int).toNat))) ((bt a0 x5_1) != 10) (wrap64 (x5_1+1))) else (none)) else (none)) else (none)) else (none)) else (none)) else (none))) else (none))=some r:=by rw [if_neg (show ¬ (false=true) by decide)] at H;exact H
     clear H
     have H:=H1
     clear H1
     by_cases c16:x3_1.length<8796093022208
     ·rw [if_pos c16] at H
      have LMc16:=Aside0.mk c16
      clear c16
      obtain ⟨y193,hy193⟩:∃ y_:List ByteArray,y_=(x3_1++[(⟨#[]⟩:ByteArray)]):=⟨_,rfl⟩
      replace H:(if 0≤(wrap64 ((y193.length:Int) - 1)) then (if (wrap64 ((y193.length:Int) - 1))<(y193.length:Int) then (if 0≤x5_1 then (if x5_1≤(wrap64 (x5_1+1)) then (if (wrap64 (x5_1+1))≤(a0.size:Int) then (if (rdOf ByteArray.empty y193 (wrap64 ((y193.length:Int) - 1))).size+(a0.extract (x5_1:Int).toNat ((wrap64 (x5_1+1)):Int).toNat).size≤9223372036854775807 then (r03_Split.l0 k1 a0 (y193.set ((wrap64 ((y193.length:Int) - 1)):Int).toNat ((rdOf ByteArray.empty y193 (wrap64 ((y193.length:Int) - 1)))++(a0.extract (x5_1:Int).toNat ((wrap64 (x5_1+1)):Int).toNat))) ((bt a0 x5_1) != 10) (wrap64 (x5_1+1))) else (none)) else (none)) else (none)) else (none)) else (none)) else (none))=some r:=by first|(rw [hy193];with_reducible exact H)|(have H2_:=(Option.bind_some _ _).symm.trans H;rw [hy193];with_reducible exact H2_)|(have H2_:=(Option.bind_some _ _).symm.trans H;with_reducible exact H2_)|with_reducible exact H|(rw [hy193];exact H)|exact H
      have Ny193:=Aside0.mk hy193
      clear hy193
      obtain ⟨ji17,hji17⟩:∃ j_:Int,(wrap64 ((y193.length:Int) - 1))=j_:=⟨_,rfl⟩
      replace H:(if 0≤(ji17) then (if (ji17)<(y193.length:Int) then (if 0≤x5_1 then (if x5_1≤(wrap64 (x5_1+1)) then (if (wrap64 (x5_1+1))≤(a0.size:Int) then (if (rdOf ByteArray.empty y193 (ji17)).size+(a0.extract (x5_1:Int).toNat ((wrap64 (x5_1+1)):Int).toNat).size≤9223372036854775807 then (r03_Split.l0 k1 a0 (y193.set ((ji17):Int).toNat ((rdOf ByteArray.empty y193 (ji17))++(a0.extract (x5_1:Int).toNat ((wrap64 (x5_1+1)):Int).toNat))) ((bt a0 x5_1) != 10) (wrap64 (x5_1+1))) else (none)) else (none)) else (none)) else (none)) else (none)) else (none))=some r:=by first|(rw [hji17] at H;exact H)|(simp only [hji17] at H ⊢;exact H)
      have hji17w:(IntKind.i64.wrap ((y193.length:Int) - 1))=ji17:=(i64_w _).trans hji17
      by_cases c18:0≤(ji17)
      ·rw [if_pos c18] at H
       have c18b0:decide (0≤(ji17))=true:=decide_eq_true c18
       clear c18
       by_cases c19:(ji17)<(y193.length:Int)
       ·rw [if_pos c19] at H
        have c19b0:decide ((ji17)<(y193.length:Int))=true:=decide_eq_true c19
        clear c19
        by_cases c20:0≤x5_1
        ·rw [if_pos c20] at H
         have c20b0:=eq_true c20
         have c20b1:decide (0≤x5_1)=true:=decide_eq_true c20
         clear c20
         by_cases c21:x5_1≤(wrap64 (x5_1+1))
         ·rw [if_pos c21] at H
          have c21b0:=eq_true c21
          have c21b1:decide (x5_1≤(wrap64 (x5_1+1)))=true:=decide_eq_true c21
          by_cases c22:(wrap64 (x5_1+1))≤(a0.size:Int)
          ·rw [if_pos c22] at H
           have c22b0:=eq_true c22
           have c22b1:decide ((wrap64 (x5_1+1))≤(a0.size:Int))=true:=decide_eq_true c22
           by_cases c23:(rdOf ByteArray.empty y193 (ji17)).size+(a0.extract (x5_1:Int).toNat ((wrap64 (x5_1+1)):Int).toNat).size≤9223372036854775807
           ·rw [if_pos c23] at H
            have c23b0:=eq_true c23
            have c23b1:decide ((rdOf ByteArray.empty y193 (ji17)).size+(a0.extract (x5_1:Int).toNat ((wrap64 (x5_1+1)):Int).toNat).size≤9223372036854775807)=true:=decide_eq_true c23
            try have c23b2:(9223372036854775807<(rdOf ByteArray.empty y193 (ji17)).size+(a0.extract (x5_1:Int).toNat ((wrap64 (x5_1+1)):Int).toNat).size)=False:=eq_false (Nat.not_lt.2 c23)
            try have c23b3:(9223372036854775807<(rdOf ByteArray.empty y193 (ji17)).size+(((wrap64 (x5_1+1)):Int).toNat - (x5_1:Int).toNat))=False:=by have h_:=c23;rw [ByteArray.size_extract,Nat.min_eq_left (by omega)] at h_;exact eq_false (Nat.not_lt.2 h_)
            obtain ⟨y197,hy197⟩:∃ y_:List ByteArray,y_=(y193.set ((ji17):Int).toNat ((rdOf ByteArray.empty y193 (ji17))++(a0.extract (x5_1:Int).toNat ((wrap64 (x5_1+1)):Int).toNat))):=⟨_,rfl⟩
            replace H:(r03_Split.l0 k1 a0 y197 ((bt a0 x5_1) != 10) (wrap64 (x5_1+1)))=some r:=by first|(rw [hy197];with_reducible exact H)|(have H2_:=(Option.bind_some _ _).symm.trans H;rw [hy197];with_reducible exact H2_)|(have H2_:=(Option.bind_some _ _).symm.trans H;with_reducible exact H2_)|with_reducible exact H|(rw [hy197];exact H)|exact H
            have Ny197:=Aside0.mk hy197
            clear hy197
            have H':=Aside0.mk H
            clear H
            try go_wp2_with (first|((with_reducible refine gate_builtin (b:=.append) (xs:=#[.tmp 14,.tmp 15]) rfl ?_);at_builtin;refine Kd.R_append Kd.string (w0:=w) w.heap.size rfl (.tmp 14) (.tmp 15) 33 9 (.string ⟨#[]⟩) 16 rfl Tryd.underlying33 info9 rfl (by decide) (by omega) u3 x3_1 (⟨#[]⟩:ByteArray) [.string (⟨#[]⟩:ByteArray)] (fun _=>True) (fun _=>False) rfl rfl ?aP (fun _ hk=>hk.elim) ?aF ?aO ?aB ?aS ?aL ?_;(case aP=>exact rfl);(case aB=>exact (by repeat (first|(with_reducible first|exact HB.out|apply below_alloc|apply pw_below_drewN|apply below_drew1)|exact HB.out)));(case aF=>exact (fun _ _=>trivial));(case aO=>exact (by (with_reducible repeat (first|apply Kd.R_alloc|apply Kd.R_drewN|apply Kd.R_drew));exact HO_3.out));(case aS=>exact (below_size (by repeat (first|(with_reducible first|exact HB.out|apply below_alloc|apply pw_below_drewN|apply below_drew1)|exact HB.out))));(case aL=>have:=LMc16.out;omega);intro v194 w26 ho hb hg hat;rw [← Ny193.out] at ho;have n0_:=Aside0.mk (hb);have n1_:=Aside0.mk (ho);clear HB;clear HO_3;have HB:=n0_;have HO195:=n1_;clear n0_ n1_;clear ho hb hg hat))
            have n0_:=Aside0.mk (Kd.R_drew HO195.out)
            have n1_:=Aside0.mk (below_drew1 HB.out)
            clear HO195
            clear HB
            have HO195:=n0_
            have HB:=n1_
            clear n0_ n1_
            obtain ⟨Ao28,co28,eo28⟩:=Kd.R_slice HO195.out
            (first|subst eo28|(injection eo28 with f1_ f2_ f3_;have f4_:=f1_.symm;have f5_:=f3_.symm;clear f1_ f2_ f3_;subst f4_;subst f5_))
            have p196:0≤((ji17):Int):=of_decide_eq_true (by first|(with_reducible assumption)|assumption)
            have q196:(ji17)<(y193.length:Int):=of_decide_eq_true (by first|(with_reducible assumption)|assumption)
            obtain ⟨ad196,e196,hx196_0⟩:=Kd.at_string (Kd.R_reads' HO195.out).2.2 (ji17) p196 q196
            cases e196
            replace p196:=eq_true p196
            replace q196:=eq_true q196
            have p24:0≤((ji17):Int):=of_decide_eq_true (by first|(with_reducible assumption)|assumption)
            have q24:((ji17):Int)<((y193.length:Int):Int):=of_decide_eq_true (by first|(with_reducible assumption)|assumption)
            obtain ⟨go24,co24,eo24,gb24,gl24,cl24,HG24⟩:=Kd.R_form HO195.out (by omega)
            (first|cases eo24|(injection eo24 with ea_ en_ ec_;(first|subst ea_|(injection ea_ with ea_;subst ea_));subst ec_;clear en_))
            have GB24:=Aside0.mk gb24
            have GG24:=Aside0.mk HG24
            clear gb24 gl24 HG24
            (first|simp only [add_plain] at hx196_0|skip)
            obtain ⟨hx24_0,hf24_0⟩:=Kd.R_celln (⟨#[]⟩:ByteArray) HO195.out ((ji17):Int) p24 q24
            replace p24:=eq_true p24
            replace q24:=eq_true q24
            have HP29:=Kd.R_putn HO195.out ((ji17):Int) ((rdOf ByteArray.empty y193 (ji17))++(a0.extract (x5_1:Int).toNat ((wrap64 (x5_1+1)):Int).toNat))
            rw [← Ny197.out] at HP29
            have HQ29:=Aside0.mk HP29
            clear HP29
            refine start_ (n:=18) (S:=fun w'=>w'.cell? ⟨go24,((ji17)).toNat,none⟩=some (.string (rdOf ByteArray.empty y193 (ji17)))) (ds:=[17]) #[false,false,false,false,false,false,false,false,false,false,false,false,false,false,false,false,false,false] (by kernel_rfl) rfl rfl (hx196_0) (fun hHeld=>?_);refine with_tabW r03_Split.tab8 r03_Split.bits8 (fun HT_ HW_=>?_)
            generalize w26.drew=w27 at HO195 HB GG24 HQ29 hf24_0 hx196_0 hx24_0 hHeld ⊢
            refine pure_ (i:=0) (N:=some 17) (v:=?_) (a':=?_) #[true,false,false,false,false,false,false,false,false,false,false,false,false,false,false,false,false,false] rfl rfl (any_of HT_.out (by kernel_rfl)) (fun _ _ _ h=>h) (Or.inl ⟨by rfl,?_⟩) ?_ ?_
            rotate_left
            ·intro w'
             go_simp
             with_reducible rfl
            rotate_left
            ·simp only [Act.put,List.setIfInBounds_toArray,List.set_cons_zero,List.set_cons_succ,i64_w,i32_w]
             rfl
            refine pure_ (i:=1) (N:=some 18) (v:=?_) (a':=?_) #[true,true,false,false,false,false,false,false,false,false,false,false,false,false,false,false,false,false] rfl rfl (any_of HT_.out (by kernel_rfl)) (fun _ _ _ h=>h) (Or.inl ⟨by rfl,?_⟩) ?_ ?_
            rotate_left
            ·intro w'
             go_simp
             with_reducible rfl
            rotate_left
            ·simp only [Act.put,List.setIfInBounds_toArray,List.set_cons_zero,List.set_cons_succ,i64_w,i32_w]
             rfl
            refine pure_ (i:=2) (N:=some 19) (v:=?_) (a':=?_) #[true,true,true,false,false,false,false,false,false,false,false,false,false,false,false,false,false,false] rfl rfl (any_of HT_.out (by kernel_rfl)) (fun _ _ _ h=>h) (Or.inl ⟨by rfl,?_⟩) ?_ ?_
            rotate_left
            ·intro w'
             go_simp
             with_reducible rfl
            rotate_left
            ·simp only [Act.put,List.setIfInBounds_toArray,List.set_cons_zero,List.set_cons_succ,i64_w,i32_w]
             rfl
            refine pure_ (i:=3) (N:=some 20) (v:=?_) (a':=?_) #[true,true,true,true,false,false,false,false,false,false,false,false,false,false,false,false,false,false] rfl rfl (any_of HT_.out (by kernel_rfl)) (fun _ _ _ h=>h) (Or.inl ⟨by rfl,?_⟩) ?_ ?_
            rotate_left
            ·intro w'
             go_simp
             with_reducible rfl
            rotate_left
            ·simp only [Act.put,List.setIfInBounds_toArray,List.set_cons_zero,List.set_cons_succ,i64_w,i32_w]
             rfl
            refine pure_ (i:=4) (N:=some 21) (v:=?_) (a':=?_) #[true,true,true,true,true,false,false,false,false,false,false,false,false,false,false,false,false,false] rfl rfl (any_of HT_.out (by kernel_rfl)) (fun _ _ _ h=>h) (Or.inl ⟨by rfl,?_⟩) ?_ ?_
            rotate_left
            ·intro w'
             go_simp
             with_reducible rfl
            rotate_left
            ·simp only [Act.put,List.setIfInBounds_toArray,List.set_cons_zero,List.set_cons_succ,i64_w,i32_w]
             rfl
            refine pure_ (i:=5) (N:=some 22) (v:=?_) (a':=?_) #[true,true,true,true,true,true,false,false,false,false,false,false,false,false,false,false,false,false] rfl rfl (any_of HT_.out (by kernel_rfl)) (fun _ _ _ h=>h) (Or.inl ⟨by rfl,?_⟩) ?_ ?_
            rotate_left
            ·intro w'
             go_simp
             with_reducible rfl
            rotate_left
            ·simp only [Act.put,List.setIfInBounds_toArray,List.set_cons_zero,List.set_cons_succ,i64_w,i32_w]
             rfl
            refine pure_ (i:=6) (N:=some 23) (v:=?_) (a':=?_) #[true,true,true,true,true,true,true,false,false,false,false,false,false,false,false,false,false,false] rfl rfl (any_of HT_.out (by kernel_rfl)) (fun _ _ _ h=>h) (Or.inl ⟨by rfl,?_⟩) ?_ ?_
            rotate_left
            ·intro w'
             go_simp
             with_reducible rfl
            rotate_left
            ·simp only [Act.put,List.setIfInBounds_toArray,List.set_cons_zero,List.set_cons_succ,i64_w,i32_w]
             rfl
            refine pure_ (i:=7) (N:=some 24) (v:=?_) (a':=?_) #[true,true,true,true,true,true,true,true,false,false,false,false,false,false,false,false,false,false] rfl rfl (any_of HT_.out (by kernel_rfl)) (fun _ _ _ h=>h) (Or.inl ⟨by rfl,?_⟩) ?_ ?_
            rotate_left
            ·intro w'
             go_simp
             with_reducible rfl
            rotate_left
            ·simp only [Act.put,List.setIfInBounds_toArray,List.set_cons_zero,List.set_cons_succ,i64_w,i32_w]
             rfl
            refine pure_ (i:=8) (N:=some 25) (v:=?_) (a':=?_) #[true,true,true,true,true,true,true,true,true,false,false,false,false,false,false,false,false,false] rfl rfl (any_of HT_.out (by kernel_rfl)) (fun _ _ _ h=>h) (Or.inl ⟨by rfl,?_⟩) ?_ ?_
            rotate_left
            ·intro w'
             go_simp
             with_reducible rfl
            rotate_left
            ·simp only [Act.put,List.setIfInBounds_toArray,List.set_cons_zero,List.set_cons_succ,i64_w,i32_w]
             rfl
            refine pure_ (i:=10) (N:=some 27) (v:=?_) (a':=?_) #[true,true,true,true,true,true,true,true,true,false,true,false,false,false,false,false,false,false] rfl rfl (any_of HT_.out (by kernel_rfl)) (fun _ _ _ h=>h) (Or.inl ⟨by rfl,?_⟩) ?_ ?_
            rotate_left
            ·intro w'
             go_simp
             with_reducible rfl
            rotate_left
            ·simp only [Act.put,List.setIfInBounds_toArray,List.set_cons_zero,List.set_cons_succ,i64_w,i32_w]
             rfl
            refine pure_ (i:=11) (N:=some 28) (v:=?_) (a':=?_) #[true,true,true,true,true,true,true,true,true,false,true,true,false,false,false,false,false,false] rfl rfl (any_of HT_.out (by kernel_rfl)) (fun _ _ _ h=>h) (Or.inl ⟨by rfl,?_⟩) ?_ ?_
            rotate_left
            ·intro w'
             go_simp
             with_reducible rfl
            rotate_left
            ·simp only [Act.put,List.setIfInBounds_toArray,List.set_cons_zero,List.set_cons_succ,i64_w,i32_w]
             rfl
            refine pure_ (i:=12) (N:=some 29) (v:=?_) (a':=?_) #[true,true,true,true,true,true,true,true,true,false,true,true,true,false,false,false,false,false] rfl rfl (any_of HT_.out (by kernel_rfl)) (fun _ _ _ h=>h) (Or.inl ⟨by rfl,?_⟩) ?_ ?_
            rotate_left
            ·intro w'
             go_simp
             with_reducible rfl
            rotate_left
            ·simp only [Act.put,List.setIfInBounds_toArray,List.set_cons_zero,List.set_cons_succ,i64_w,i32_w]
             rfl
            refine pure_ (i:=13) (N:=some 30) (v:=?_) (a':=?_) #[true,true,true,true,true,true,true,true,true,false,true,true,true,true,false,false,false,false] rfl rfl (any_of HT_.out (by kernel_rfl)) (fun _ _ _ h=>h) (Or.inl ⟨by rfl,?_⟩) ?_ ?_
            rotate_left
            ·intro w'
             go_simp
             with_reducible rfl
            rotate_left
            ·simp only [Act.put,List.setIfInBounds_toArray,List.set_cons_zero,List.set_cons_succ,i64_w,i32_w]
             rfl
            refine pure_ (i:=14) (N:=some 31) (v:=?_) (a':=?_) #[true,true,true,true,true,true,true,true,true,false,true,true,true,true,true,false,false,false] rfl rfl (any_of HT_.out (by kernel_rfl)) (fun _ _ _ h=>h) (Or.inl ⟨by rfl,?_⟩) ?_ ?_
            rotate_left
            ·intro w'
             go_simp
             with_reducible rfl
            rotate_left
            ·simp only [Act.put,List.setIfInBounds_toArray,List.set_cons_zero,List.set_cons_succ,i64_w,i32_w]
             rfl
            refine take_ (i:=9) (N:=some 26) (v:=?_) (a':=?_) #[true,true,true,true,true,true,true,true,true,true,true,true,true,true,true,false,false,false] rfl rfl (take_ofW HT_.out HW_.out (by kernel_rfl)) (fun _ _ _ h=>h) (Or.inl ⟨by rfl,?_⟩) hHeld ?_ ?_
            rotate_left
            ·intro w' s0
             go_simp
             with_reducible rfl
            rotate_left
            ·simp only [Act.put,List.setIfInBounds_toArray,List.set_cons_zero,List.set_cons_succ,i64_w,i32_w]
             rfl
            refine pure_ (i:=15) (N:=some 32) (v:=?_) (a':=?_) #[true,true,true,true,true,true,true,true,true,true,true,true,true,true,true,true,false,false] rfl rfl (any_of HT_.out (by kernel_rfl)) (fun _ _ _ h=>h) (Or.inl ⟨by rfl,?_⟩) ?_ ?_
            rotate_left
            ·intro w'
             go_simp
             with_reducible rfl
            rotate_left
            ·simp only [Act.put,List.setIfInBounds_toArray,List.set_cons_zero,List.set_cons_succ,i64_w,i32_w]
             rfl
            refine pure_ (i:=16) (N:=some 33) (v:=?_) (a':=?_) #[true,true,true,true,true,true,true,true,true,true,true,true,true,true,true,true,true,false] rfl rfl (any_of HT_.out (by kernel_rfl)) (fun _ _ _ h=>h) (Or.inl ⟨by rfl,?_⟩) ?_ ?_
            rotate_left
            ·intro w'
             go_simp
             with_reducible rfl
            rotate_left
            ·simp only [Act.put,List.setIfInBounds_toArray,List.set_cons_zero,List.set_cons_succ,i64_w,i32_w]
             rfl
            refine last_ (i:=17) (N:=none) #[true,true,true,true,true,true,true,true,true,true,true,true,true,true,true,true,true,true] rfl rfl (one_of HT_.out (by kernel_rfl)) (by decide) (fun K hK=>?_)
            refine skip_ (w1:=?_) (by rfl) rfl ?_ ?_
            rotate_left
            ·go_simp
             rfl
            refine hK.out _ _ ?_
            clear hK K
            refine done_ (done_of HT_.out (by kernel_rfl)) ?_
            have p25:0≤(x5_1:Int):=of_decide_eq_true (by first|(with_reducible assumption)|assumption)
            have q25:x5_1<(a0.size:Int):=of_decide_eq_true (by first|(with_reducible assumption)|assumption)
            have hx25:=bt_at a0 x5_1
            replace p25:=eq_true p25
            replace q25:=eq_true q25
            try go_wp2
            go_roundg k1
            case measure=>have:=HK1.out;omega
            case rel=>exact ⟨(y197),(((bt a0 x5_1) != 10)),(wrap64 (x5_1+1)),(by first|rfl|(simp;done)|(simp [*];done)),(by first|rfl|(simp;done)|(simp [*];done)),H',⟨by have:=HK1.out;omega⟩,⟨by (with_reducible repeat (first|apply Kd.R_alloc|apply Kd.R_drewN|apply Kd.R_drew));exact HQ29.out⟩,⟨by repeat (first|(with_reducible first|exact HB.out|apply below_alloc|apply pw_below_drewN|apply below_drew1|refine below_set ?_ GB24.out)|exact HB.out)⟩⟩
           ·rw [if_neg c23] at H
            exact absurd H (by simp)
          ·rw [if_neg c22] at H
           exact absurd H (by simp)
         ·rw [if_neg c21] at H
          exact absurd H (by simp)
        ·rw [if_neg c20] at H
         exact absurd H (by simp)
       ·rw [if_neg c19] at H
        exact absurd H (by simp)
      ·rw [if_neg c18] at H
       exact absurd H (by simp)
     ·rw [if_neg c16] at H
      exact absurd H (by simp)
   ·rw [if_neg c2] at H
    have c2b0:decide (x5_1<(a0.size:Int))=false:=decide_eq_false c2
    clear c2
    obtain rfl:=Option.some.inj H
    go_wp2
    go_ret
    exact ⟨_,by first|rfl|(simp [errW_none,errW_some]<;>rfl)|(simp [*,errW_none,errW_some]<;>rfl),by (with_reducible repeat (first|apply Kd.R_alloc|apply Kd.R_drewN|apply Kd.R_drew));exact HO_3.out,by repeat (first|(with_reducible first|exact HB.out|apply below_alloc|apply pw_below_drewN|apply below_drew1)|exact HB.out)⟩

end Go.Proofs.YtamojbfmphainaaDoor.Pr
-- shrunk
/-
What the printed functions of layer 3 answer, in plain Lean.
-/
namespace Go.Proofs.YtamojbfmphainaaDoor.Pr
open Go.RowKit Go.Proofs.YtamojbfmphainaaDoorW.PrintWords Go.Proofs.YtamojbfmphainaaDoorW.PrintLast Go.Proofs.YtamojbfmphainaaDoorW.PrintMore
theorem Split_some (s:ByteArray) (h:s.size≤4398046511104):lines_Split.f s=some (linesB s):=by unfold lines_Split.f;rw [if_pos h]
theorem bt_get (s:ByteArray) (i:Nat) (h:i<s.size):bt s (i:Int)=(s.data.toList[i]'h).toNat:=by
 unfold bt
 rw [dif_pos (by simpa using h)]
 rfl
theorem bt_eq (s:ByteArray) (i:Nat) (h:i<s.size) (c:UInt8):bt s (i:Int)=(c.toNat:Int) ↔ s.data.toList[i]'h=c:=by
 rw [bt_get s i h]
 constructor
 ·intro e;exact UInt8.toNat_inj.1 (by omega)
 ·intro e;rw [e]
theorem last_get (s:ByteArray) (h:0<s.size):s.data.toList.getLast?=some (s.data.toList[s.size - 1]'(by show s.size - 1<s.size;omega)):=by
 rw [List.getLast?_eq_getElem?]
 exact List.getElem?_eq_getElem (by show s.size - 1<s.size;omega)
theorem closedL_size (s:ByteArray) (h:0<s.size):closedL s.data.toList=decide (bt s ((s.size - 1:Nat):Int)=10):=by
 have hne:¬ s.data.toList=[]:=fun e=>by have:=congrArg List.length e;exact absurd (show s.size=0 from this) (by omega)
 unfold closedL
 rw [decide_eq_false hne,last_get s h,Bool.false_or]
 have:=bt_eq s (s.size - 1) (by omega) 10
 rw [Bool.eq_iff_iff,beq_iff_eq,decide_eq_true_iff,Option.some.injEq]
 exact this.symm
theorem closedL_zero (s:ByteArray) (h:s.size=0):closedL s.data.toList=true:=by
 rw [ByteArray.size_eq_zero_iff.1 h];rfl
theorem RClosed_some (s:ByteArray) (h:s.size≤4611686018427387904):r03_Closed.f s=some (closedL s.data.toList):=by
 unfold r03_Closed.f
 by_cases h0:s.size=0
 ·rw [if_pos (by omega),closedL_zero s h0]
 ·have e:wrap64 ((s.size:Int) - 1)=((s.size - 1:Nat):Int):=by unfold wrap64;omega
  rw [if_neg (by omega),e,if_pos (by omega),if_pos (by omega),closedL_size s (by omega)]
  congr 1
theorem Closed_some (s:ByteArray) (h:s.size≤4611686018427387904):lines_Closed.f s=some (closedL s.data.toList):=by
 unfold lines_Closed.f
 by_cases h0:s.size=0
 ·rw [if_pos (str_nil s h0),closedL_zero s h0]
 ·have e:wrap64 ((s.size:Int) - ((⟨#[10]⟩:ByteArray).size:Int))=((s.size - 1:Nat):Int):=by
   show wrap64 ((s.size:Int) - ((1:Nat):Int))=_
   unfold wrap64;omega
  rw [if_neg (str_ne s h0)]
  unfold strings_HasSuffix.f stringslite_HasSuffix.f
  rw [e,if_pos (show (s.size:Int) ≥ ((⟨#[10]⟩:ByteArray).size:Int) from by show (s.size:Int) ≥ ((1:Nat):Int);omega),if_pos (by omega),if_pos (by omega),closedL_size s (by omega)]
  simp only [Option.bind_some]
  congr 1
  rw [Bool.eq_iff_iff,beq_iff_eq,str_iff,decide_eq_true_iff]
  have h1:s.size - 1<s.size:=by omega
  rw [show (10:Int)=((10:UInt8).toNat:Int) from rfl,bt_eq s (s.size - 1) h1 10]
  have hx:s.extract ((s.size - 1:Nat):Int).toNat s.size=bs [s.data.toList[s.size - 1]'h1]:=by
   apply ByteArray.ext
   apply Array.toList_inj.1
   have h3:s.data.toList.length=s.size:=rfl
   simp only [ByteArray.data_extract,Array.toList_extract,Int.toNat_natCast,bs,List.extract_eq_take_drop]
   rw [List.drop_eq_getElem_cons (by omega),show s.size - (s.size - 1)=1 by omega]
   simp
  rw [hx]
  constructor
  ·intro hh
   have:=bs_inj (a:=[_]) (b:=[10]) hh
   simpa using this
  ·intro hh;rw [hh];rfl
def goL (out:List (List UInt8)) (op:Bool):List UInt8→List (List UInt8)
 | []=>out
 | b :: l=>goL (if op=true then out.set (out.length - 1) (out.getD (out.length - 1) []++[b]) else out++[[b]]) (b != 10) l
theorem set_last (out:List (List UInt8)) (cur x:List UInt8):(out++[cur]).set ((out++[cur]).length - 1) x=out++[x]:=by
 rw [List.length_append,List.length_singleton,Nat.add_sub_cancel,List.set_append_right _ _ (by omega)]
 simp
theorem getD_last (out:List (List UInt8)) (cur:List UInt8):(out++[cur]).getD ((out++[cur]).length - 1) []=cur:=by
 rw [List.length_append,List.length_singleton,Nat.add_sub_cancel];simp
theorem goL_eq (l:List UInt8):(∀ out,goL out false l=out++lns l)∧(∀ out cur,goL (out++[cur]) true l=out++glue cur (lns l)):=by
 induction l with
 | nil=>exact ⟨fun out=>by simp [goL,lns],fun out cur=>by simp [goL,lns,glue]⟩
 | cons b l ih =>
  constructor
  ·intro out
   rw [goL,if_neg (by simp)]
   by_cases h:b=10
   ·subst h;rw [show ((10:UInt8) != 10)=false from rfl,ih.1,lns_nl];simp
   ·rw [show (b != 10)=true from by simpa using h,ih.2,lns_no h]
  ·intro out cur
   rw [goL,if_pos rfl,set_last,getD_last]
   by_cases h:b=10
   ·subst h;rw [show ((10:UInt8) != 10)=false from rfl,ih.1,lns_nl];simp [glue]
   ·rw [show (b != 10)=true from by simpa using h,ih.2,lns_no h,glue_glue]
theorem goL_all (l:List UInt8):goL [] false l=lns l:=by simpa using (goL_eq l).1 []
theorem ex_one (s:ByteArray) (i:Nat) (h:i<s.size):s.extract i (i+1)=bs [s.data.toList[i]'h]:=by
 apply ByteArray.ext
 apply Array.toList_inj.1
 have h3:s.data.toList.length=s.size:=rfl
 simp only [ByteArray.data_extract,Array.toList_extract,bs,List.extract_eq_take_drop]
 rw [List.drop_eq_getElem_cons (by omega),show i+1 - i=1 by omega]
 simp
theorem bs_append (a b:List UInt8):bs a++bs b=bs (a++b):=by
 apply ByteArray.ext
 apply Array.toList_inj.1
 simp [bs,ByteArray.data_append]
theorem rd_bs (out:List (List UInt8)) (j:Nat) (h:j<out.length):rdOf ByteArray.empty (out.map bs) (j:Int)=bs (out.getD j []):=by
 rw [rdOf,Int.toNat_natCast,List.getD_eq_getElem?_getD,List.getElem?_map,List.getD_eq_getElem?_getD,List.getElem?_eq_getElem h];rfl
theorem RSplit_l0 (s:ByteArray) (hn:s.size≤4398046511104):∀ d i (out:List (List UInt8)) (op:Bool),s.size - i=d→i≤s.size→out.length≤i→(∀ x ∈ out,x.length≤i)→(op=true→out≠[]) →
  Ev (fun k=>r03_Split.l0 k s (out.map bs) op (i:Int)) ((goL out op (s.data.toList.drop i)).map bs):=by
 have h3:s.data.toList.length=s.size:=rfl
 intro d
 induction d with
 | zero =>
  intro i out op hd hi ho hx hop
  refine Ev.step (fun _=>r03_Split.l0.eq_2 ..) ?_
  simp only [if_neg (show ¬ (i:Int)<(s.size:Int) by omega)]
  rw [List.drop_of_length_le (by omega)]
  exact Ev.now _
 | succ d ih =>
  intro i out op hd hi ho hx hop
  refine Ev.step (fun _=>r03_Split.l0.eq_2 ..) ?_
  have h0:i<s.size:=by omega
  have hw:=w_succ h0 (by omega)
  have hb:=bt_eq s i h0 10
  rw [show ((10:UInt8).toNat:Int)=10 from rfl] at hb
  have hbt:(bt s (i:Int) != 10)=(s.data.toList[i] != 10):=by
   rw [Bool.eq_iff_iff,bne_iff_ne,bne_iff_ne,Ne,Ne,hb]
  have hex:s.extract (i:Int).toNat ((i+1:Nat):Int).toNat=bs [s.data.toList[i]]:=by
   rw [Int.toNat_natCast,Int.toNat_natCast];exact ex_one s i h0
  have hsz:(bs [s.data.toList[i]]).size=1:=rfl
  rw [List.drop_eq_getElem_cons (by omega),goL]
  have fin:∀ (m:List (List UInt8)) (j:Nat),m≠[]→j=m.length - 1→m.length≤i+1→(∀ x ∈ m,x.length≤i) →
    Ev (fun k=>if 0≤(wrap64 (((m.map bs).length:Int) - 1)) then (if (wrap64 (((m.map bs).length:Int) - 1))<((m.map bs).length:Int) then (if 0≤(i:Int) then (if (i:Int)≤(wrap64 ((i:Int)+1)) then (if (wrap64 ((i:Int)+1))≤(s.size:Int) then (if (rdOf ByteArray.empty (m.map bs) (wrap64 (((m.map bs).length:Int) - 1))).size+(s.extract (i:Int).toNat ((wrap64 ((i:Int)+1)):Int).toNat).size≤9223372036854775807 then (r03_Split.l0 k s ((m.map bs).set ((wrap64 (((m.map bs).length:Int) - 1)):Int).toNat ((rdOf ByteArray.empty (m.map bs) (wrap64 (((m.map bs).length:Int) - 1)))++(s.extract (i:Int).toNat ((wrap64 ((i:Int)+1)):Int).toNat))) ((bt s (i:Int)) != 10) (wrap64 ((i:Int)+1))) else (none)) else (none)) else (none)) else (none)) else (none)) else (none))
     ((goL (m.set (m.length - 1) (m.getD (m.length - 1) []++[s.data.toList[i]])) (s.data.toList[i] != 10) (s.data.toList.drop (i+1))).map bs):=by
   intro m j hm hj hl hmx
   have hpos:0<m.length:=List.length_pos_iff.2 hm
   have e1:wrap64 (((m.map bs).length:Int) - 1)=((m.length - 1:Nat):Int):=by rw [List.length_map];unfold wrap64;omega
   have hge:m.getD (m.length - 1) []=m[m.length - 1]:=by rw [List.getD_eq_getElem?_getD,List.getElem?_eq_getElem (by omega)];rfl
   have hlen:(m.getD (m.length - 1) []).length≤i:=by rw [hge];exact hmx _ (List.getElem_mem _)
   have q1:(0:Int)≤((m.length - 1:Nat):Int):=by omega
   have q2:((m.length - 1:Nat):Int)<(m.length:Int):=by omega
   have q3:(bs (m.getD (m.length - 1) [])).size+(bs [s.data.toList[i]]).size≤9223372036854775807:=by
    show (m.getD (m.length - 1) []).length+1≤_
    omega
   rw [e1,rd_bs m (m.length - 1) (by omega),hw,hex,hbt]
   simp only [List.length_map,if_pos q1,if_pos q2,if_pos (show (0:Int)≤(i:Int) by omega),if_pos (show (i:Int)≤((i+1:Nat):Int) by omega),if_pos (show ((i+1:Nat):Int)≤(s.size:Int) by omega),if_pos q3,Int.toNat_natCast,bs_append,← List.map_set]
   refine ih (i+1) _ _ (by omega) (by omega) (by rw [List.length_set];omega) ?_ (fun _=>by intro e;have:=congrArg List.length e;rw [List.length_set,List.length_nil] at this;omega)
   intro x hx
   rcases List.mem_or_eq_of_mem_set hx with hx|rfl
   ·have:=hmx x hx;omega
   ·rw [List.length_append];simp only [List.length_singleton];omega
  simp only [if_pos (show (i:Int)<(s.size:Int) by omega)]
  cases op with
  | true =>
   simp only [if_true]
   exact fin out _ (hop rfl) rfl (by omega) hx
  | false =>
   simp only [Bool.false_eq_true,if_false,Option.bind_some,if_pos (show (out.map bs).length<8796093022208 by rw [List.length_map];omega)]
   have h:=fin (out++[[]]) _ (by simp) rfl (by rw [List.length_append];simp;omega) (fun x hx'=>by
    rcases List.mem_append.1 hx' with hx'|hx'
    ·exact hx x hx'
    ·simp at hx';subst hx';simp)
   rw [set_last,getD_last,List.nil_append,List.map_append] at h
   exact h
theorem RSplit_ev (s:ByteArray) (hn:s.size≤4398046511104):Ev (fun k=>r03_Split.f k s) (linesB s):=by
 have h:=RSplit_l0 s hn _ 0 [] false rfl (by omega) (by simp) (by simp) (by simp)
 rw [List.drop_zero,goL_all,← linesB_lns] at h
 exact h
end Go.Proofs.YtamojbfmphainaaDoor.Pr
-- shrunk
-- written by a program of this session's (a turned copy of the kit's printer); Lean checks it
namespace Go.Proofs.YtamojbfmphainaaDoor.Pr
open Go.RowKit Go.Proofs.YtamojbfmphainaaDoorW.PrintWords Go.Proofs.YtamojbfmphainaaDoorW.PrintLast Go.Proofs.YtamojbfmphainaaDoorW.PrintMore
attribute [local go_sem] max2_int min2_int max_two min_two max_three min_three max_four min_four   -- for this text's walks alone

def unified_first.f (a0:Int) (a1:Int):Option (Int):=if a1 > 0 then (some (wrap64 (a0+1))) else (some a0)
set_option maxHeartbeats 8000000 in
set_option maxRecDepth 100000 in
theorem unified_first.calls (a0:Int) (a1:Int) (r:Int) (w:World) (h:unified_first.f a0 a1=some r) :
  Calls Tryd.prog 53 #[.int .i64 a0,.int .i64 a1] w fun e w'=>e=.returned (.int .i64 r)∧Drawn0 w w':=by
 have H:(if a1 > 0 then (some (wrap64 (a0+1))) else (some a0))=some r:=h
 clear h
 by_cases c3:a1 > 0
 ·rw [if_pos c3] at H
  have c3b0:decide (0<a1)=true:=decide_eq_true c3
  clear c3
  obtain rfl:=Option.some.inj H
  go_enter Tryd.func53,Tryd.ntmps53
  go_wp2
  go_ret
  exact ⟨by first|rfl|(simp;done)|(simp [*];done),by repeat (first|exact Drawn0.refl _|apply Drawn0.step)⟩
 ·rw [if_neg c3] at H
  have c3b0:decide (0<a1)=false:=decide_eq_false c3
  clear c3
  obtain rfl:=Option.some.inj H
  go_enter Tryd.func53,Tryd.ntmps53
  go_wp2
  go_ret
  exact ⟨by first|rfl|(simp;done)|(simp [*];done),by repeat (first|exact Drawn0.refl _|apply Drawn0.step)⟩

end Go.Proofs.YtamojbfmphainaaDoor.Pr
-- shrunk
/-
unified's numbers: printed (from), and read (number, side).
-/
namespace Go.Proofs.YtamojbfmphainaaDoor.Pr
open Go.RowKit Go.Proofs.YtamojbfmphainaaDoorW.PrintWords Go.Proofs.YtamojbfmphainaaDoorW.PrintLast Go.Proofs.YtamojbfmphainaaDoorW.PrintMore
def itoaB (n:Int):ByteArray:=⟨(Lib.itoa n).toArray⟩
theorem itoaB_size (n:Int) (h0:-9223372036854775808≤n) (h1:n≤9223372036854775807):(itoaB n).size≤21:=by
 have:=Lib.itoa_length_le n h0 h1
 show (Lib.itoa n).toArray.size≤21
 simpa using this
theorem itoa_calls (n:Int) (h0:-9223372036854775808≤n) (h1:n≤9223372036854775807) (w:World) (hL:LaidU w) :
  Calls Tryd.prog 55 #[.int .i64 n] w fun e w'=>e=.returned (.string (itoaB n))∧Below w.heap.size w w' :=
 (Tryd.strconv_Itoa n h0 h1 w hL.tab).mono fun e w' h=>⟨h.1,by obtain ⟨k,os,rfl⟩:=h.2;exact Lib.below_grow _ w (Nat.le_refl _) k os⟩
def numB (s:ByteArray):Option Int:=match Lib.atoiAll s.data.toList with
 | .ok v=>if 0≤v∧v<2147483648∧itoaB v=s then some v else none
 | _=>none
def firstI (at_ many:Int):Int:=if many > 0 then at_+1 else at_
def fromB (at_ many:Int):ByteArray:=itoaB (firstI at_ many)++(⟨#[44]⟩:ByteArray)++itoaB many
set_option maxRecDepth 100000 in
set_option maxHeartbeats 4000000 in
theorem from_calls (at_ many:Int) (h0:0≤at_) (h1:at_≤4611686018427387904) (h2:0≤many) (h3:many≤4611686018427387904) (w:World) (hL:LaidU w) :
  Calls Tryd.prog 24 #[.int .i64 at_,.int .i64 many] w fun e w'=>e=.returned (.string (fromB at_ many))∧Below w.heap.size w w':=by
 have HL:=Aside0.mk hL
 clear hL
 obtain ⟨f,hf⟩:∃ f,f=firstI at_ many:=⟨_,rfl⟩
 have hF:unified_first.f at_ many=some f:=by
  rw [hf,unified_first.f,firstI]
  split
  ·rw [show wrap64 (at_+1)=at_+1 by unfold wrap64;omega]
  ·rfl
 have hf0:0≤f:=by rw [hf,firstI];split<;>omega
 have hf1:f≤4611686018427387905:=by rw [hf,firstI];split<;>omega
 obtain ⟨x,hx⟩:∃ x,x=itoaB f:=⟨_,rfl⟩
 obtain ⟨y,hy⟩:∃ y,y=itoaB many:=⟨_,rfl⟩
 have hxs:x.size≤21:=by rw [hx];exact itoaB_size _ (by omega) (by omega)
 have hys:y.size≤21:=by rw [hy];exact itoaB_size _ (by omega) (by omega)
 have HR:=Aside0.mk (show fromB at_ many=x++(⟨#[44]⟩:ByteArray)++y by rw [fromB,← hf,← hx,← hy])
 have C1:=Aside0.mk (fun W hW=>by have h_:=itoa_calls f (by omega) (by omega) W hW;rw [← hx] at h_;exact h_)
 have C2:=Aside0.mk (fun W hW=>by have h_:=itoa_calls many (by omega) (by omega) W hW;rw [← hy] at h_;exact h_)
 have CF:=Aside0.mk hF
 have n1:(9223372036854775807<x.size+1)=False:=eq_false (by omega)
 have n2:(9223372036854775807<x.size+1+y.size)=False:=eq_false (by omega)
 have n3:(9223372036854775807<(x++(⟨#[44]⟩:ByteArray)).size+y.size)=False:=eq_false (by rw [ByteArray.size_append];show ¬ 9223372036854775807<x.size+1+y.size;omega)
 clear hF hf hx hy hf0 hf1 hxs hys h0 h1 h2 h3
 go_enter Tryd.func24,Tryd.ntmps24
 go_wp2_with (first
  | (go_at_call 53;(with_reducible refine (unified_first.calls at_ many f _ CF.out).mono ?_);rintro e w' ⟨rfl,⟨nd,rfl⟩⟩;have HL1:=Aside0.mk (HL.out.below (pw_below_drewN (Below.refl _ _) nd)))
  | (go_at_call 55;(with_reducible refine (C1.out _ HL1.out).mono ?_);rintro e w1 ⟨rfl,hb⟩;have HL2:=Aside0.mk (HL1.out.below hb);have HB1:=Aside0.mk hb;clear hb)
  | (go_at_call 55;(with_reducible refine (C2.out _ HL2.out).mono ?_);rintro e w2 ⟨rfl,hb⟩;have HB2:=Aside0.mk hb;clear hb))
 go_ret
 exact ⟨by rw [HR.out];first|done|rfl,below_then (below_then (pw_below_drewN (Below.refl _ _) _) (Nat.le_refl _) HB1.out) HB1.out.size HB2.out⟩
theorem atoiAll_low {l:List UInt8} {v:Int} (h:Lib.atoiAll l=.ok v):-9223372036854775808≤v∧v≤9223372036854775807:=by
 unfold Lib.atoiAll at h
 split at h
 ·cases h
 ·dsimp only at h
  split at h
  ·cases h
  ·cases h
  ·split at h
   ·cases h
   ·split at h
    ·cases h
    ·injection h with h
     split at h<;>omega
def NumEnd (s:ByteArray) (w:World) (e:Ending) (w':World):Prop:=∃ n,e=.returned (.tuple #[.int .i64 n,.bool (numB s).isSome])∧(∀ v,numB s=some v→n=v)∧Below w.heap.size w w'
theorem atoi_ok (s:ByteArray) (hs:s.size≤281474976710656) (v:Int) (hA:Lib.atoiAll s.data.toList=.ok v) (w:World) :
  Calls Tryd.prog 96 #[.string s] w fun e w'=>e=.returned (.tuple #[.int .i64 v,.nilIface])∧Below w.heap.size w w' :=
 (Tryd.strconv_Atoi_ok s (by omega) v hA w).mono fun e w' h=>⟨h.1,by
  rcases h.2 with rfl|⟨t,rfl⟩
  ·exact Below.refl _ _
  ·exact Lib.bytesWorld_below _ _ _⟩
def AtoiNo (w:World) (e:Ending) (w':World):Prop:=∃ n a,e=.returned (.tuple #[.int .i64 n,.iface 129 (.pointer (some a))])∧Below w.heap.size w w'
theorem atoi_no (s:ByteArray) (hs:s.size≤281474976710656) (hA:∀ v,Lib.atoiAll s.data.toList≠.ok v) (w:World) (hL:LaidU w):Calls Tryd.prog 96 #[.string s] w (AtoiNo w):=by
 obtain ⟨t1,p1,h1⟩:=hL.syn
 obtain ⟨t2,p2,h2⟩:=hL.rng
 rcases h:Lib.atoiAll s.data.toList with v|_|_
 ·exact absurd h (hA v)
 ·exact (Tryd.strconv_Atoi_syntax_var s hs h t1 p1 w h1).mono fun e w' ⟨N,he,_,_,hb⟩=>⟨_,_,he,hb⟩
 ·exact (Tryd.strconv_Atoi_range_var s hs h t2 p2 w h2).mono fun e w' ⟨N,he,_,_,hb⟩=>⟨_,_,he,hb⟩
set_option maxRecDepth 100000 in
set_option maxHeartbeats 4000000 in
theorem number_ok (s:ByteArray) (hs:s.size≤281474976710656) (v:Int) (hA:Lib.atoiAll s.data.toList=.ok v) (w:World) (hL:LaidU w):Calls Tryd.prog 86 #[.string s] w (NumEnd s w):=by
 have HL:=Aside0.mk hL
 have hb:=atoiAll_low hA
 have CA:=Aside0.mk (atoi_ok s hs v hA w)
 have HA:=Aside0.mk hA
 obtain ⟨y,hy⟩:∃ y,y=itoaB v:=⟨_,rfl⟩
 have C1:=Aside0.mk (fun W hW=>by have h_:=itoa_calls v hb.1 hb.2 W hW;rw [← hy] at h_;exact h_)
 have HY:=Aside0.mk hy
 clear hL hs hA hy hb
 by_cases c1:v<2147483648
 ·have f1:decide (v<2147483648)=true:=decide_eq_true c1
  by_cases c2:y=s
  ·have f2:(y.toList == s.toList)=true:=(Lib.bytes_beq_iff _ _).2 c2
   by_cases c3:0≤v
   ·have HN:=Aside0.mk (show numB s=some v by rw [numB,HA.out];exact if_pos ⟨c3,c1,by rw [← HY.out];exact c2⟩)
    have f3:decide (0≤v)=true:=decide_eq_true c3
    clear c1 c2 c3
    go_enter Tryd.func86,Tryd.ntmps86
    go_wp2_with (first
   | (go_at_call 96;(with_reducible refine CA.out.mono ?_);rintro e w1 ⟨rfl,hb⟩;have HL1:=Aside0.mk (HL.out.below hb);have HB1:=Aside0.mk hb;clear hb)
   | (go_at_call 55;(with_reducible refine (C1.out _ HL1.out).mono ?_);rintro e w2 ⟨rfl,hb⟩;have HB2:=Aside0.mk hb;clear hb))
    go_ret2
    exact ⟨v,by rw [HN.out];rfl,fun u h=>by rw [HN.out] at h;exact Option.some.inj h,below_then HB1.out HB1.out.size HB2.out⟩
   ·have HN:=Aside0.mk (show numB s=none by rw [numB,HA.out];exact if_neg fun h=>c3 h.1)
    have f3:decide (0≤v)=false:=decide_eq_false c3
    clear c1 c2 c3
    go_enter Tryd.func86,Tryd.ntmps86
    go_wp2_with (first
   | (go_at_call 96;(with_reducible refine CA.out.mono ?_);rintro e w1 ⟨rfl,hb⟩;have HL1:=Aside0.mk (HL.out.below hb);have HB1:=Aside0.mk hb;clear hb)
   | (go_at_call 55;(with_reducible refine (C1.out _ HL1.out).mono ?_);rintro e w2 ⟨rfl,hb⟩;have HB2:=Aside0.mk hb;clear hb))
    go_ret2
    exact ⟨v,by rw [HN.out];rfl,(fun u h=>by rw [HN.out] at h;cases h),below_then HB1.out HB1.out.size HB2.out⟩
  ·have f2:(y.toList == s.toList)=false:=(Lib.bytes_beq_false_iff _ _).2 c2
   have HN:=Aside0.mk (show numB s=none by rw [numB,HA.out];exact if_neg fun h=>c2 (by rw [HY.out];exact h.2.2))
   clear c1 c2
   go_enter Tryd.func86,Tryd.ntmps86
   go_wp2_with (first
   | (go_at_call 96;(with_reducible refine CA.out.mono ?_);rintro e w1 ⟨rfl,hb⟩;have HL1:=Aside0.mk (HL.out.below hb);have HB1:=Aside0.mk hb;clear hb)
   | (go_at_call 55;(with_reducible refine (C1.out _ HL1.out).mono ?_);rintro e w2 ⟨rfl,hb⟩;have HB2:=Aside0.mk hb;clear hb))
   go_ret2
   exact ⟨v,by rw [HN.out];rfl,(fun u h=>by rw [HN.out] at h;cases h),below_then HB1.out HB1.out.size HB2.out⟩
 ·have f1:decide (v<2147483648)=false:=decide_eq_false c1
  have HN:=Aside0.mk (show numB s=none by rw [numB,HA.out];exact if_neg fun h=>c1 h.2.1)
  clear c1
  go_enter Tryd.func86,Tryd.ntmps86
  go_wp2_with (first
   | (go_at_call 96;(with_reducible refine CA.out.mono ?_);rintro e w1 ⟨rfl,hb⟩;have HL1:=Aside0.mk (HL.out.below hb);have HB1:=Aside0.mk hb;clear hb)
   | (go_at_call 55;(with_reducible refine (C1.out _ HL1.out).mono ?_);rintro e w2 ⟨rfl,hb⟩;have HB2:=Aside0.mk hb;clear hb))
  go_ret2
  exact ⟨v,by rw [HN.out];rfl,(fun u h=>by rw [HN.out] at h;cases h),HB1.out⟩
set_option maxRecDepth 100000 in
set_option maxHeartbeats 4000000 in
theorem number_no (s:ByteArray) (hs:s.size≤281474976710656) (hA:∀ v,Lib.atoiAll s.data.toList≠.ok v) (w:World) (hL:LaidU w):Calls Tryd.prog 86 #[.string s] w (NumEnd s w):=by
 have HN:=Aside0.mk (show numB s=none by
  rw [numB]
  rcases h:Lib.atoiAll s.data.toList with v|_|_
  ·exact absurd h (hA v)
  ·rfl
  ·rfl)
 have CA:=Aside0.mk (atoi_no s hs hA w hL)
 clear hL hs hA
 go_enter Tryd.func86,Tryd.ntmps86
 go_wp2_with (go_at_call 96;(with_reducible refine CA.out.mono ?_);rintro e w1 ⟨n,a,rfl,hb⟩;have HB1:=Aside0.mk hb;clear hb)
 go_ret2
 exact ⟨n,by rw [HN.out];rfl,(fun u h=>by rw [HN.out] at h;cases h),HB1.out⟩
theorem number_calls (s:ByteArray) (hs:s.size≤281474976710656) (w:World) (hL:LaidU w):Calls Tryd.prog 86 #[.string s] w (NumEnd s w):=by
 by_cases h:∃ v,Lib.atoiAll s.data.toList=.ok v
 ·obtain ⟨v,hv⟩:=h
  exact number_ok s hs v hv w hL
 ·exact number_no s hs (fun v hv=>h ⟨v,hv⟩) w hL
end Go.Proofs.YtamojbfmphainaaDoor.Pr
-- shrunk
/-
unified's side of a head, read.
-/
namespace Go.Proofs.YtamojbfmphainaaDoor.Pr
open Go.RowKit Go.Proofs.YtamojbfmphainaaDoorW.PrintWords Go.Proofs.YtamojbfmphainaaDoorW.PrintLast Go.Proofs.YtamojbfmphainaaDoorW.PrintMore
theorem number_some (s:ByteArray) (hs:s.size≤281474976710656) (v:Int) (h:numB s=some v) (w:World) (hL:LaidU w) :
  Calls Tryd.prog 86 #[.string s] w fun e w'=>e=.returned (.tuple #[.int .i64 v,.bool true])∧Below w.heap.size w w' :=
 (number_calls s hs w hL).mono fun e w' ⟨n,he,hn,hb⟩=>⟨by rw [he,hn v h,h];rfl,hb⟩
def NoNum (w:World) (e:Ending) (w':World):Prop:=∃ n,e=.returned (.tuple #[.int .i64 n,.bool false])∧Below w.heap.size w w'
theorem number_none (s:ByteArray) (hs:s.size≤281474976710656) (h:numB s=none) (w:World) (hL:LaidU w) :
  Calls Tryd.prog 86 #[.string s] w (NoNum w) :=
 (number_calls s hs w hL).mono fun e w' ⟨n,he,hn,hb⟩=>⟨n,by rw [he,h];rfl,hb⟩
theorem numB_range {s:ByteArray} {v:Int} (h:numB s=some v):0≤v∧v<2147483648∧itoaB v=s:=by
 unfold numB at h
 split at h
 ·split at h
  ·rename_i h1
   obtain rfl:=Option.some.inj h
   exact h1
  ·cases h
 ·cases h
def cutA (s:ByteArray) (sep:List UInt8):ByteArray:=⟨(Lib.cut s.data.toList sep).1.toArray⟩
def cutC (s:ByteArray) (sep:List UInt8):ByteArray:=⟨(Lib.cut s.data.toList sep).2.1.toArray⟩
def cutIs (s:ByteArray) (sep:List UInt8):Bool:=(Lib.cut s.data.toList sep).2.2
theorem cutA_size (s:ByteArray) (sep:List UInt8):(cutA s sep).size≤s.size:=by
 show (Lib.cut s.data.toList sep).1.toArray.size≤s.data.size
 rw [List.size_toArray,← Array.length_toList]
 unfold Lib.cut
 split
 ·show (List.take _ _).length≤_
  rw [List.length_take];exact Nat.min_le_right _ _
 ·exact Nat.le_refl _
theorem cutC_size (s:ByteArray) (sep:List UInt8):(cutC s sep).size≤s.size:=by
 show (Lib.cut s.data.toList sep).2.1.toArray.size≤s.data.size
 rw [List.size_toArray,← Array.length_toList]
 unfold Lib.cut
 split
 ·show (List.drop _ _).length≤_
  rw [List.length_drop];omega
 ·exact Nat.zero_le _
theorem cut_calls (s sep:ByteArray) (hs:s.size≤4000000000) (w:World) (hL:LaidU w) :
  Calls Tryd.prog 77 #[.string s,.string sep] w fun e w'=>e=.returned (.tuple #[.string (cutA s sep.data.toList),.string (cutC s sep.data.toList),.bool (cutIs s sep.data.toList)])∧Below w.heap.size w w':=by
 obtain ⟨m,hm⟩:=hL.mx
 exact (Tryd.strings_Cut s sep m w (by omega) hm).mono fun e w' h=>⟨h.1,by obtain ⟨n,rfl⟩:=h.2;exact pw_below_drewN (Below.refl _ _) n⟩
def sideB (s:ByteArray):Option (Int × Int):=if cutIs s [44]=true then
  match numB (cutA s [44]),numB (cutC s [44]) with
  | some x,some y=>if y > 0∧x=0 then none else some (if y > 0 then x - 1 else x,y)
  | _,_=>none
 else none
def SideEnd (s:ByteArray) (w:World) (e:Ending) (w':World):Prop:=∃ a b,e=.returned (.tuple #[.int .i64 a,.int .i64 b,.bool (sideB s).isSome])∧(∀ p,sideB s=some p→p=(a,b))∧Below w.heap.size w w'
set_option maxRecDepth 100000 in
set_option maxHeartbeats 8000000 in
theorem side_calls (s:ByteArray) (hs:s.size≤4000000000) (w:World) (hL:LaidU w):Calls Tryd.prog 78 #[.string s] w (SideEnd s w):=by
 have HL:=Aside0.mk hL
 have CC:=Aside0.mk (cut_calls s ⟨#[44]⟩ hs w hL)
 obtain ⟨x,hx⟩:∃ x,x=cutA s [44]:=⟨_,rfl⟩
 obtain ⟨y,hy⟩:∃ y,y=cutC s [44]:=⟨_,rfl⟩
 obtain ⟨z,hz⟩:∃ z,z=cutIs s [44]:=⟨_,rfl⟩
 have hxs:x.size≤281474976710656:=by have:=cutA_size s [44];rw [← hx] at this;omega
 have hys:y.size≤281474976710656:=by have:=cutC_size s [44];rw [← hy] at this;omega
 have CC2:=Aside0.mk (show Calls Tryd.prog 77 #[.string s,.string ⟨#[44]⟩] w fun e w'=>e=.returned (.tuple #[.string x,.string y,.bool z])∧Below w.heap.size w w' by rw [hx,hy,hz];exact CC.out)
 have HD:=Aside0.mk (show sideB s=if z=true then (match numB x,numB y with|some x,some y=>if y > 0∧x=0 then none else some (if y > 0 then x - 1 else x,y)|_,_=>none) else none by rw [sideB,← hx,← hy,← hz])
 clear CC hx hy hz hs hL
 rcases hnx:numB x with _|p
 ·have C1:=Aside0.mk (number_none x hxs hnx)
  rcases hny:numB y with _|q
  ·have C2:=Aside0.mk (number_none y hys hny)
   have HN:=Aside0.mk (show sideB s=none by rw [HD.out,hnx];split<;>rfl)
   clear hnx hny hxs hys HD
   cases z
   all_goals
    as_aux_lemma =>
    go_enter Tryd.func78,Tryd.ntmps78
    go_wp2_with (first
     | (go_at_call 77;(with_reducible refine CC2.out.mono ?_);rintro e w1 ⟨rfl,hb⟩;have HL1:=Aside0.mk (HL.out.below hb);have HB1:=Aside0.mk hb;clear hb)
     | (go_at_call 86;(with_reducible refine (C1.out _ HL1.out).mono ?_);rintro e w2 ⟨nw2,rfl,hb⟩;have HL2:=Aside0.mk (HL1.out.below hb);have HB2:=Aside0.mk (below_step HB1.out hb);clear hb)
     | (go_at_call 86;(with_reducible refine (C2.out _ HL2.out).mono ?_);rintro e w3 ⟨nw3,rfl,hb⟩;have HB3:=Aside0.mk (below_step HB2.out hb);clear hb))
    go_ret3
    exact ⟨_,_,by rw [HN.out];rfl,(fun u h=>by rw [HN.out] at h;cases h),HB3.out⟩
  ·have C2:=Aside0.mk (number_some y hys q hny)
   have HN:=Aside0.mk (show sideB s=none by rw [HD.out,hnx];split<;>rfl)
   clear hnx hny hxs hys HD
   cases z
   all_goals
    as_aux_lemma =>
    go_enter Tryd.func78,Tryd.ntmps78
    go_wp2_with (first
     | (go_at_call 77;(with_reducible refine CC2.out.mono ?_);rintro e w1 ⟨rfl,hb⟩;have HL1:=Aside0.mk (HL.out.below hb);have HB1:=Aside0.mk hb;clear hb)
     | (go_at_call 86;(with_reducible refine (C1.out _ HL1.out).mono ?_);rintro e w2 ⟨nw2,rfl,hb⟩;have HL2:=Aside0.mk (HL1.out.below hb);have HB2:=Aside0.mk (below_step HB1.out hb);clear hb)
     | (go_at_call 86;(with_reducible refine (C2.out _ HL2.out).mono ?_);rintro e w3 ⟨rfl,hb⟩;have HB3:=Aside0.mk (below_step HB2.out hb);clear hb))
    go_ret3
    exact ⟨_,_,by rw [HN.out];rfl,(fun u h=>by rw [HN.out] at h;cases h),HB3.out⟩
 ·have C1:=Aside0.mk (number_some x hxs p hnx)
  rcases hny:numB y with _|q
  ·have C2:=Aside0.mk (number_none y hys hny)
   have HN:=Aside0.mk (show sideB s=none by rw [HD.out,hnx,hny];split<;>rfl)
   clear hnx hny hxs hys HD
   cases z
   all_goals
    as_aux_lemma =>
    go_enter Tryd.func78,Tryd.ntmps78
    go_wp2_with (first
     | (go_at_call 77;(with_reducible refine CC2.out.mono ?_);rintro e w1 ⟨rfl,hb⟩;have HL1:=Aside0.mk (HL.out.below hb);have HB1:=Aside0.mk hb;clear hb)
     | (go_at_call 86;(with_reducible refine (C1.out _ HL1.out).mono ?_);rintro e w2 ⟨rfl,hb⟩;have HL2:=Aside0.mk (HL1.out.below hb);have HB2:=Aside0.mk (below_step HB1.out hb);clear hb)
     | (go_at_call 86;(with_reducible refine (C2.out _ HL2.out).mono ?_);rintro e w3 ⟨nw3,rfl,hb⟩;have HB3:=Aside0.mk (below_step HB2.out hb);clear hb))
    go_ret3
    exact ⟨_,_,by rw [HN.out];rfl,(fun u h=>by rw [HN.out] at h;cases h),HB3.out⟩
  ·have C2:=Aside0.mk (number_some y hys q hny)
   have hp:=numB_range hnx
   have hq:=numB_range hny
   have hp0:=hp.1
   have hp1:=hp.2.1
   have hq0:=hq.1
   have hq1:=hq.2.1
   cases z with
   | false =>
    as_aux_lemma =>
    have HN:=Aside0.mk (show sideB s=none by rw [HD.out];rfl)
    clear hnx hny hxs hys HD hp hq
    go_enter Tryd.func78,Tryd.ntmps78
    go_wp2_with (first
     | (go_at_call 77;(with_reducible refine CC2.out.mono ?_);rintro e w1 ⟨rfl,hb⟩;have HL1:=Aside0.mk (HL.out.below hb);have HB1:=Aside0.mk hb;clear hb)
     | (go_at_call 86;(with_reducible refine (C1.out _ HL1.out).mono ?_);rintro e w2 ⟨rfl,hb⟩;have HL2:=Aside0.mk (HL1.out.below hb);have HB2:=Aside0.mk (below_step HB1.out hb);clear hb)
     | (go_at_call 86;(with_reducible refine (C2.out _ HL2.out).mono ?_);rintro e w3 ⟨rfl,hb⟩;have HB3:=Aside0.mk (below_step HB2.out hb);clear hb))
    go_ret3
    exact ⟨_,_,by rw [HN.out];rfl,(fun u h=>by rw [HN.out] at h;cases h),HB3.out⟩
   | true =>
    by_cases c1:q > 0
    ·have f1:decide (0<q)=true:=decide_eq_true c1
     by_cases c2:p=0
     ·as_aux_lemma =>
      have f2:(p == 0)=true:=beq_iff_eq.2 c2
      have HN:=Aside0.mk (show sideB s=none by rw [HD.out,hnx,hny];show (if q > 0∧p=0 then none else _)=none;rw [if_pos ⟨c1,c2⟩])
      clear hnx hny hxs hys HD hp hq c1 c2
      go_enter Tryd.func78,Tryd.ntmps78
      go_wp2_with (first
       | (go_at_call 77;(with_reducible refine CC2.out.mono ?_);rintro e w1 ⟨rfl,hb⟩;have HL1:=Aside0.mk (HL.out.below hb);have HB1:=Aside0.mk hb;clear hb)
       | (go_at_call 86;(with_reducible refine (C1.out _ HL1.out).mono ?_);rintro e w2 ⟨rfl,hb⟩;have HL2:=Aside0.mk (HL1.out.below hb);have HB2:=Aside0.mk (below_step HB1.out hb);clear hb)
       | (go_at_call 86;(with_reducible refine (C2.out _ HL2.out).mono ?_);rintro e w3 ⟨rfl,hb⟩;have HB3:=Aside0.mk (below_step HB2.out hb);clear hb))
      go_ret3
      exact ⟨_,_,by rw [HN.out];rfl,(fun u h=>by rw [HN.out] at h;cases h),HB3.out⟩
     ·as_aux_lemma =>
      have f2:(p == 0)=false:=beq_eq_false_iff_ne.2 c2
      have HN:=Aside0.mk (show sideB s=some (p - 1,q) by rw [HD.out,hnx,hny];show (if q > 0∧p=0 then none else some (if q > 0 then p - 1 else p,q))=_;rw [if_neg (fun h=>c2 h.2),if_pos c1])
      clear hnx hny hxs hys HD hp hq c1 c2
      go_enter Tryd.func78,Tryd.ntmps78
      go_wp2_with (first
       | (go_at_call 77;(with_reducible refine CC2.out.mono ?_);rintro e w1 ⟨rfl,hb⟩;have HL1:=Aside0.mk (HL.out.below hb);have HB1:=Aside0.mk hb;clear hb)
       | (go_at_call 86;(with_reducible refine (C1.out _ HL1.out).mono ?_);rintro e w2 ⟨rfl,hb⟩;have HL2:=Aside0.mk (HL1.out.below hb);have HB2:=Aside0.mk (below_step HB1.out hb);clear hb)
       | (go_at_call 86;(with_reducible refine (C2.out _ HL2.out).mono ?_);rintro e w3 ⟨rfl,hb⟩;have HB3:=Aside0.mk (below_step HB2.out hb);clear hb))
      go_ret3
      exact ⟨_,_,by rw [HN.out];rfl,(fun u h=>by rw [HN.out] at h;exact (Option.some.inj h).symm),HB3.out⟩
    ·as_aux_lemma =>
     have f1:decide (0<q)=false:=decide_eq_false c1
     have HN:=Aside0.mk (show sideB s=some (p,q) by rw [HD.out,hnx,hny];show (if q > 0∧p=0 then none else some (if q > 0 then p - 1 else p,q))=_;rw [if_neg (fun h=>c1 h.1),if_neg c1])
     clear hnx hny hxs hys HD hp hq c1
     go_enter Tryd.func78,Tryd.ntmps78
     go_wp2_with (first
      | (go_at_call 77;(with_reducible refine CC2.out.mono ?_);rintro e w1 ⟨rfl,hb⟩;have HL1:=Aside0.mk (HL.out.below hb);have HB1:=Aside0.mk hb;clear hb)
      | (go_at_call 86;(with_reducible refine (C1.out _ HL1.out).mono ?_);rintro e w2 ⟨rfl,hb⟩;have HL2:=Aside0.mk (HL1.out.below hb);have HB2:=Aside0.mk (below_step HB1.out hb);clear hb)
      | (go_at_call 86;(with_reducible refine (C2.out _ HL2.out).mono ?_);rintro e w3 ⟨rfl,hb⟩;have HB3:=Aside0.mk (below_step HB2.out hb);clear hb))
     go_ret3
     exact ⟨_,_,by rw [HN.out];rfl,(fun u h=>by rw [HN.out] at h;exact (Option.some.inj h).symm),HB3.out⟩
end Go.Proofs.YtamojbfmphainaaDoor.Pr
-- shrunk
