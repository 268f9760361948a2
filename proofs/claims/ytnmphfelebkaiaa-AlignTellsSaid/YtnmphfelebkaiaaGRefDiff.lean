/-
grapevineref04.Diff's contract: it answers what is between two lists of at most 2^20 lines, as plain Lean says (between).
-/
import Derived.Outline
import Derived.Deep.DeepMust
import Derived.IntWalk
import Derived.Lib.SlicesS
import Derived.RegionTactic
import Derived.BigRegion
import Derived.Test.YtnmphfelebkaiaaK1
import Derived.Test.YtnmphfelebkaiaaK4
set_option linter.unusedVariables false
set_option linter.unusedSimpArgs false
namespace Go.Proofs.Ytnmphfelebkaiaa.Pr
open Go.RowKit Go.Proofs.YtnmphfelebkaiaaW.PrintWords Go.Proofs.YtnmphfelebkaiaaW.PrintLast Go.Proofs.YtnmphfelebkaiaaW.PrintMore
def r04_Diff.f (l0 l1:List ByteArray):Option (List Ed):=if l0.length≤1048576∧l1.length≤1048576 then some (between l0 l1) else none
theorem cutMid (A:Option Addr) (c:Nat) (xs:List ByteArray) (lo hi:Nat) (h1:lo≤hi) (h2:hi≤xs.length) (hc:xs.length≤c) :
  ∃ A':Option Addr,(∀ W:World,(Instr.slice 22 (.slice A xs.length c) (some (.int .i64 (lo:Int))) (some (.int .i64 (hi:Int))) none).run Try.prog W=.ok (.slice A' ((xs.drop lo).take (hi - lo)).length (c - lo)) W) ∧
   (∀ w:World,Kd.C Kd.string w A xs.length xs→Kd.C Kd.string w A' ((xs.drop lo).take (hi - lo)).length ((xs.drop lo).take (hi - lo)))∧((xs.drop lo).take (hi - lo)).length≤c - lo:=by
 obtain ⟨i0,hi0,hz⟩:=Option.map_eq_some_iff.1 ginfoStr
 simp only [Prod.mk.injEq] at hz
 refine ⟨_,fun W=>?_,fun w h=>Kd.C_take (Kd.C_drop (c:=c) h (by omega) hc) (by rw [List.length_drop];omega),by rw [List.length_take,List.length_drop];omega⟩
 have h:=cut_mid (P:=Try.prog) 22 9 .i64 .i64 Try.underlying22 hi0 1 hz.2.1 A xs.length c (lo:Int) (hi:Int) (Int.natCast_nonneg _) (by omega) (by omega) hc W
 rw [Int.toNat_natCast,Int.toNat_natCast] at h
 rw [h,List.length_take,List.length_drop,Nat.min_eq_left (by omega)]
 rfl
theorem common_step {a b:List ByteArray} {i:Nat} (h0:i<a.length) (h1:i<b.length) (h:a[i]=b[i]):common (a.drop i) (b.drop i)=common (a.drop (i+1)) (b.drop (i+1))+1:=by
 rw [List.drop_eq_getElem_cons h0,List.drop_eq_getElem_cons h1,common,if_pos h]
theorem common_stop {a b:List ByteArray} {i:Nat} (h:∀ (h0:i<a.length) (h1:i<b.length),a[i]≠b[i]):common (a.drop i) (b.drop i)=0:=by
 by_cases h0:i<a.length
 ·by_cases h1:i<b.length
  ·rw [List.drop_eq_getElem_cons h0,List.drop_eq_getElem_cons h1,common,if_neg (h h0 h1)]
  rw [List.drop_of_length_le (by omega:b.length≤i)];cases a.drop i<;>simp [common]
 rw [List.drop_of_length_le (by omega:a.length≤i)];simp [common]
def gref_Diff.T35:Bool × List (List Nat × List Nat):=(true,[([],[]),([],[]),([],[]),([],[]),([2,3],[2,3]),([4],[4]),([5],[5]),([],[]),([7],[7]),([8],[8]),([9],[9]),([6,10],[6,10]),([0,1,0,1,2,3,4,5,6,7,8,9,10,11],[0,1]),([12,0,1,2,3,4,5,6,7,8,9,10,11],[12]),([13,11,11,0,1,2,3,4,5,6,7,8,9,10,11],[11,13])])
def gref_Diff.B35:List Nat:=[0,0,0,0,12,28,60,0,128,384,896,2044,4095,8191,16383]
theorem gref_Diff.tab35:rtab .any (opsOf Try.f20 35)=gref_Diff.T35:=by kernel_rfl
theorem gref_Diff.bits35:waitsOk gref_Diff.T35.2 gref_Diff.B35=true:=by kernel_rfl
def gref_Diff.T29:Bool × List (List Nat × List Nat):=(true,[([],[]),([0],[0]),([],[]),([1,2],[1,2]),([],[]),([],[]),([5],[5]),([4,6,3],[4,6]),([3,7],[3,7]),([8,7,0,1,2,3,4,5,6,7,8],[8])])
def gref_Diff.B29:List Nat:=[0,1,0,7,0,0,32,127,255,511]
theorem gref_Diff.tab29:rtab .any (opsOf Try.f20 29)=gref_Diff.T29:=by kernel_rfl
theorem gref_Diff.bits29:waitsOk gref_Diff.T29.2 gref_Diff.B29=true:=by kernel_rfl
structure DRel (base:Nat) (w:World) (B0:Option Addr) (d0:Nat) (x':List ByteArray) (B1:Option Addr) (d1:Nat) (y':List ByteArray) (a:Nat) (lx ly f:Nat) (fin:List Ed) (v10:Value) (op:Bool) (out:List Ed) (wr:World):Prop where
 cx:Kd.C Kd.string w B0 x'.length x'
 cy:Kd.C Kd.string w B1 y'.length y'
 dx:x'.length≤d0
 dy:y'.length≤d1
 hlx:x'.length≤lx
 hly:y'.length≤ly
 pos:a+x'.length=f+lx
 ne:op=true→out≠[]
 goes:edits (a:Int) op out (steps x' y')=fin
 own:Kd.S k52 52 wr base (fun _=>True) v10 out
 len:out.length+x'.length+y'.length≤lx+ly
 del:∀ e ∈ out,0≤e.f1∧e.f1+x'.length≤lx∧e.f2.length+y'.length≤ly
 bel:Below base w wr
theorem DRel.drewN {base:Nat} {w:World} {B0:Option Addr} {d0:Nat} {x':List ByteArray} {B1:Option Addr} {d1:Nat} {y':List ByteArray} {a lx ly f:Nat} {fin:List Ed} {v10:Value} {op:Bool} {out:List Ed} {wr:World}
  (h:DRel base w B0 d0 x' B1 d1 y' a lx ly f fin v10 op out wr) (n:Nat):DRel base w B0 d0 x' B1 d1 y' a lx ly f fin v10 op out (wr.drewN n) :=
 ⟨h.cx,h.cy,h.dx,h.dy,h.hlx,h.hly,h.pos,h.ne,h.goes,Kd.S_drewN h.own n,h.len,h.del,pw_below_drewN h.bel n⟩
structure DMid (base:Nat) (w:World) (v10:Value) (out:List Ed) (wr:World):Prop where
 own:Kd.S k52 52 wr base (fun _=>True) v10 out
 bel:Below base w wr
theorem DMid.drewN {base:Nat} {w:World} {v10:Value} {out:List Ed} {wr:World} (h:DMid base w v10 out wr) (n:Nat):DMid base w v10 out (wr.drewN n):=⟨Kd.S_drewN h.own n,pw_below_drewN h.bel n⟩
theorem DMid.drew {base:Nat} {w:World} {v10:Value} {out:List Ed} {wr:World} (h:DMid base w v10 out wr):DMid base w v10 out wr.drew:=⟨Kd.S_drew h.own,below_drew h.bel⟩
theorem DMid.below {base:Nat} {w:World} {v10:Value} {out:List Ed} {wr w1:World} (h:DMid base w v10 out wr) (hB:base≤w.heap.size) (hb:Below wr.heap.size wr w1) (hbb:base≤wr.heap.size):DMid base w v10 out w1:=⟨Kd.S_below h.own hb,below_then h.bel hbb hb⟩
theorem opened_del2 {at_:Int} {op:Bool} {out:List Ed} {lx ly nx ny:Nat} (hx:nx≤lx) (hy:ny≤ly) (h:∀ e ∈ out,0≤e.f1∧e.f1+nx≤lx∧e.f2.length+ny≤ly):∀ e ∈ opened at_ op out,0≤e.f1∧e.f1+nx≤lx∧e.f2.length+ny≤ly:=by
 intro e he
 unfold opened at he
 split at he
 ·exact h e he
 rcases List.mem_append.1 he with he|he
 ·exact h e he
 simp at he;subst he;simp;omega
theorem cutOne (A:Option Addr) (c n:Nat) (xs:List ByteArray) (hn:n=xs.length) (hm:0<n) (hc:n≤c) :
  ∃ A':Option Addr,(∀ W:World,(Instr.slice 22 (.slice A n c) (some (.int .i64 1)) none none).run Try.prog W=.ok (.slice A' (n - 1) (c - 1)) W) ∧
   (∀ w:World,Kd.C Kd.string w A xs.length xs→Kd.C Kd.string w A' (xs.drop 1).length (xs.drop 1))∧(xs.drop 1).length=n - 1∧n - 1≤c - 1:=by
 subst hn
 obtain ⟨A',h1,h2,h3⟩:=cutFrom A c xs 1 hm hc
 rw [List.length_drop] at h1 h3
 exact ⟨A',h1,h2,List.length_drop,h3⟩
theorem head_keep {x y:List ByteArray} (h1:0<x.length) (h2:0<y.length) (he:x[0]=y[0]):steps x y=.keep :: steps (x.drop 1) (y.drop 1):=by
 have h:=steps_keep (i:=0) (k:=0) h1 h2 he;simpa using h
theorem head_del_end {x y:List ByteArray} (h1:0<x.length) (h2:¬ 0<y.length):steps x y=.del :: steps (x.drop 1) y:=by
 have h:=steps_del_end (i:=0) (k:=0) h1 h2;simpa using h
theorem head_ins_end {x y:List ByteArray} (h1:¬ 0<x.length) (h2:0<y.length):steps x y=.ins y[0] :: steps x (y.drop 1):=by
 have h:=steps_ins_end (i:=0) (k:=0) h1 h2;simpa using h
theorem head_del {x y:List ByteArray} (h1:0<x.length) (h2:0<y.length) (he:x[0]≠y[0]) (hl:lcsLen x (y.drop 1)≤lcsLen (x.drop 1) y):steps x y=.del :: steps (x.drop 1) y:=by
 have h:=steps_del (i:=0) (k:=0) h1 h2 he (by simpa using hl);simpa using h
theorem head_ins {x y:List ByteArray} (h1:0<x.length) (h2:0<y.length) (he:x[0]≠y[0]) (hl:¬ lcsLen x (y.drop 1)≤lcsLen (x.drop 1) y):steps x y=.ins y[0] :: steps x (y.drop 1):=by
 have h:=steps_ins (i:=0) (k:=0) h1 h2 he (by simpa using hl);simpa using h
theorem at_head {w:World} {A:Option Addr} {xs:List ByteArray} (h:Kd.C Kd.string w A xs.length xs) (h0:0<xs.length):∃ ad,A=some ad∧w.cell? ad=some (.string xs[0]):=by
 obtain ⟨ad,e,h1⟩:=at_str h 0 h0
 exact ⟨ad,e,by simpa [Addr.add] using h1⟩
theorem at_some {w:World} {ad:Addr} {xs:List ByteArray} (h:Kd.C Kd.string w (some ad) xs.length xs) (h0:0<xs.length):w.cell? ad=some (.string xs[0]):=by
 obtain ⟨ad',e,h1⟩:=at_head h h0
 cases e
 exact h1
set_option maxRecDepth 100000 in
set_option maxHeartbeats 4000000 in
theorem r04_Diff.calls (A0:Option Addr) (c0:Nat) (l0:List ByteArray) (A1:Option Addr) (c1:Nat) (l1:List ByteArray) (r:List Ed) (w:World) (hr0:Kd.C Kd.string w A0 l0.length l0) (hc0:l0.length≤c0) (hr1:Kd.C Kd.string w A1 l1.length l1) (hc1:l1.length≤c1) (h:r04_Diff.f l0 l1=some r) :
  Calls Try.prog 20 #[.slice A0 l0.length c0,.slice A1 l1.length c1] w fun e w'=>∃ v0_:Value,e=.returned (v0_)∧Kd.S k52 52 w' w.heap.size (fun _=>True) v0_ r∧Below w.heap.size w w':=by
 unfold r04_Diff.f at h
 by_cases hl:l0.length≤1048576∧l1.length≤1048576
 rotate_left
 ·rw [if_neg hl] at h;cases h
 rw [if_pos hl] at h
 obtain rfl:=Option.some.inj h
 obtain ⟨hl0,hl1⟩:=hl
 have HR0:=Aside0.mk hr0
 have HC0:=Aside0.mk hc0
 have HR1:=Aside0.mk hr1
 have HC1:=Aside0.mk hc1
 clear h hr0 hc0 hr1 hc1
 go_enter Try.func20,Try.ntmps20
 go_upto_block 0 with (fail)
 go_cut [5] (fun v5 wc=>v5=.int .i64 (frontOf l0 l1)∧Drawn0 w wc)
 case first=>as_aux_lemma =>
  go_wp2_with (fail)
  go_loopw [5] (fun v w'=>∃ i:Nat,i≤l0.length∧i≤l1.length∧v=.int .i64 i∧Aside0 (i+common (l0.drop i) (l1.drop i)=frontOf l0 l1)∧Drawn0 w w') (fun v _=>l0.length - (intOf v).toNat)
  case atStart=>exact ⟨0,Nat.zero_le _,Nat.zero_le _,rfl,⟨by simp [frontOf]⟩,Drawn0.refl _⟩
  case round =>
   obtain ⟨i,hi0,hi1,rfl,HE,⟨nd,rfl⟩⟩:=hrel
   by_cases h0:i<l0.length
   rotate_left
   ·have f0:decide (i<l0.length)=false:=by simp;omega
    have HE2:=Aside0.mk (show i=frontOf l0 l1 by rw [← HE.out,common_stop (fun h _=>absurd h h0)];rfl)
    clear HE
    go_wp2
    go_quiet (fail)
    go_wp2
    go_meet
    exact ⟨by rw [HE2.out],⟨⟨nd+nq,by first|rfl|exact World.drewN_drewN ..⟩⟩⟩
   have f0:decide (i<l0.length)=true:=by simp;omega
   have g0:(i:Int)<(l0.length:Int):=by omega
   by_cases h1:i<l1.length
   rotate_left
   ·have f1:decide (i<l1.length)=false:=by simp;omega
    have HE2:=Aside0.mk (show i=frontOf l0 l1 by rw [← HE.out,common_stop (fun _ h=>absurd h h1)];rfl)
    clear HE
    go_wp2
    go_quiet (fail)
    go_wp2
    go_meet
    exact ⟨by rw [HE2.out],⟨⟨nd+nq,by first|rfl|exact World.drewN_drewN ..⟩⟩⟩
   have f1:decide (i<l1.length)=true:=by simp;omega
   have g1:(i:Int)<(l1.length:Int):=by omega
   obtain ⟨ad0,e0,hx0⟩:=at_str HR0.out i h0
   obtain ⟨ad1,e1,hx1⟩:=at_str HR1.out i h1
   cases e0
   cases e1
   by_cases he:l0[i]=l1[i]
   ·have HE2:=Aside0.mk (show i+1+common (l0.drop (i+1)) (l1.drop (i+1))=frontOf l0 l1 by rw [← HE.out,common_step h0 h1 he];omega)
    have f2:((l0[i]).toList == (l1[i]).toList)=true:=(Lib.bytes_beq_iff _ _).2 he
    generalize l0[i]=s0 at *
    generalize l1[i]=s1 at *
    clear HE he
    go_wp2
    go_quiet (fail)
    go_wp2
    go_roundw
    case rel=>exact ⟨i+1,by omega,by omega,by go_num,HE2,⟨⟨nd+nq,by first|rfl|exact World.drewN_drewN ..⟩⟩⟩
    case measure=>simp [intOf];omega
   have HE2:=Aside0.mk (show i=frontOf l0 l1 by rw [← HE.out,common_stop (fun _ _=>he)];rfl)
   have f2:((l0[i]).toList == (l1[i]).toList)=false:=(Lib.bytes_beq_false_iff _ _).2 he
   generalize l0[i]=s0 at *
   generalize l1[i]=s1 at *
   clear HE he
   go_wp2
   go_quiet (fail)
   go_wp2
   go_meet
   exact ⟨by rw [HE2.out],⟨⟨nd+nq,by first|rfl|exact World.drewN_drewN ..⟩⟩⟩
 case rest =>
  obtain ⟨rfl,⟨nd,rfl⟩⟩:=hcut
  have HF:=Aside0.mk (common_le l0 l1)
  have hf0:frontOf l0 l1≤l0.length:=HF.out.1
  have hf1:frontOf l0 l1≤l1.length:=HF.out.2
  obtain ⟨f,hf⟩:∃ f,f=frontOf l0 l1:=⟨_,rfl⟩
  rw [← hf] at hf0 hf1 ⊢
  obtain ⟨en,hen⟩:∃ en,en=endOf l0 l1:=⟨_,rfl⟩
  have HEN:=Aside0.mk (show en=common (l0.drop f).reverse (l1.drop f).reverse by rw [hen,endOf,← hf])
  have HFE:=Aside0.mk (And.intro hf hen)
  have HLE:=Aside0.mk (show en≤l0.length - f∧en≤l1.length - f by
   have h:=common_le (l0.drop f).reverse (l1.drop f).reverse
   rw [HEN.out]
   simpa using h)
  clear hf hen
  go_upto_block 2 with (fail)
  go_cut [6,7] (fun v6 v7 wc=>v6=.int .i64 ((l0.length - en:Nat):Int)∧v7=.int .i64 ((l1.length - en:Nat):Int)∧Drawn0 w wc)
  case first=>as_aux_lemma =>
   go_wp2_with (fail)
   go_loopw [6,7] (fun v6 v7 w'=>∃ j:Nat,j≤l0.length - f∧j≤l1.length - f∧v6=.int .i64 ((l0.length - j:Nat):Int)∧v7=.int .i64 ((l1.length - j:Nat):Int)∧Aside0 (j+common ((l0.drop f).reverse.drop j) ((l1.drop f).reverse.drop j)=en)∧Drawn0 w w') (fun v _ _=>(intOf v).toNat)
   case atStart=>exact ⟨0,Nat.zero_le _,Nat.zero_le _,rfl,rfl,⟨by rw [HEN.out];simp⟩,⟨⟨nd,rfl⟩⟩⟩
   case round =>
    obtain ⟨j,hj0,hj1,rfl,rfl,HE,⟨nd,rfl⟩⟩:=hrel
    obtain ⟨m,hm⟩:∃ m,m=l0.length - j:=⟨_,rfl⟩
    obtain ⟨n,hn⟩:∃ n,n=l1.length - j:=⟨_,rfl⟩
    rw [← hm,← hn]
    have km:IntKind.i64.wrap ((m:Int) - 1)=(m:Int) - 1:=IntWalk.i64_in _ (by omega)
    have kn:IntKind.i64.wrap ((n:Int) - 1)=(n:Int) - 1:=IntWalk.i64_in _ (by omega)
    by_cases h0:f<m
    ·have f0:decide (f<m)=true:=by simp;omega
     have g0:(0:Int)≤(m:Int) - 1:=by omega
     have g1:(m:Int) - 1<(l0.length:Int):=by omega
     by_cases h1:f<n
     ·have f1:decide (f<n)=true:=by simp;omega
      have g2:(0:Int)≤(n:Int) - 1:=by omega
      have g3:(n:Int) - 1<(l1.length:Int):=by omega
      obtain ⟨ad0,e0,hx0⟩:=at_str HR0.out (m - 1) (by omega)
      obtain ⟨ad1,e1,hx1⟩:=at_str HR1.out (n - 1) (by omega)
      cases e0
      cases e1
      have e2:((m:Int) - 1).toNat=m - 1:=by omega
      have e3:((n:Int) - 1).toNat=n - 1:=by omega
      have hr0:∃ h:j<(l0.drop f).reverse.length,(l0.drop f).reverse[j]=l0[m - 1]'(by omega):=⟨by simp;omega,by
       rw [List.getElem_reverse,List.getElem_drop];congr 1;simp;omega⟩
      have hr1:∃ h:j<(l1.drop f).reverse.length,(l1.drop f).reverse[j]=l1[n - 1]'(by omega):=⟨by simp;omega,by
       rw [List.getElem_reverse,List.getElem_drop];congr 1;simp;omega⟩
      obtain ⟨q0,hr0⟩:=hr0
      obtain ⟨q1,hr1⟩:=hr1
      have HE2:Aside0 ((l0[m - 1]'(by omega)=l1[n - 1]'(by omega)→j+1+common ((l0.drop f).reverse.drop (j+1)) ((l1.drop f).reverse.drop (j+1))=en)∧(l0[m - 1]'(by omega)≠l1[n - 1]'(by omega)→j=en)) :=
       ⟨fun he=>by rw [← HE.out,common_step q0 q1 (by rw [hr0,hr1];exact he)];omega,fun he=>by rw [← HE.out,common_stop (fun _ _=>by rw [hr0,hr1];exact he)];rfl⟩
      clear hr0 hr1 HE
      generalize (l0[m - 1]'(by omega))=s0 at *
      generalize (l1[n - 1]'(by omega))=s1 at *
      obtain ⟨x0,hj0'⟩:∃ z:Int,z=(m:Int) - 1:=⟨_,rfl⟩
      obtain ⟨x1,hj1'⟩:∃ z:Int,z=(n:Int) - 1:=⟨_,rfl⟩
      have HXN:=Aside0.mk (And.intro hj0' hj1')
      replace km:IntKind.i64.wrap ((m:Int) - 1)=x0:=by rw [km,hj0']
      replace kn:IntKind.i64.wrap ((n:Int) - 1)=x1:=by rw [kn,hj1']
      rw [← hj0'] at g0 g1 e2
      rw [← hj1'] at g2 g3 e3
      rw [← e2] at hx0
      rw [← e3] at hx1
      have HMN:=Aside0.mk (And.intro hm hn)
      clear hj0' hj1' e2 e3 q0 q1
      by_cases he:s0=s1
      ·have HE3:=Aside0.mk (HE2.out.1 he)
       have f2:(s0.toList == s1.toList)=true:=(Lib.bytes_beq_iff _ _).2 he
       clear HE2 he hm hn
       go_wp2
       go_quiet (fail)
       go_wp2
       go_roundw
       case rel=>exact ⟨j+1,by have:=HMN.out;omega,by have:=HMN.out;omega,by have:=HMN.out;have:=HXN.out;go_num,by have:=HMN.out;have:=HXN.out;go_num,HE3,⟨⟨nd+nq,by first|rfl|exact World.drewN_drewN ..⟩⟩⟩
       case measure=>have:=HMN.out;have:=HXN.out;simp [intOf];omega
      ·have HE3:=Aside0.mk (HE2.out.2 he)
       have f2:(s0.toList == s1.toList)=false:=(Lib.bytes_beq_false_iff _ _).2 he
       clear HE2 he hm hn
       go_wp2
       go_quiet (fail)
       go_wp2
       go_meet
       exact ⟨by rw [← HE3.out,← HMN.out.1],by rw [← HE3.out,← HMN.out.2],⟨⟨nd+nq,by first|rfl|exact World.drewN_drewN ..⟩⟩⟩
     ·have f1:decide (f<n)=false:=by simp;omega
      have HE3:=Aside0.mk (show j=en by rw [← HE.out,common_stop (fun _ h=>by simp at h;omega)];rfl)
      have HMN:=Aside0.mk (And.intro hm hn)
      clear HE hm hn
      go_wp2
      go_quiet (fail)
      go_wp2
      go_meet
      exact ⟨by rw [← HE3.out,← HMN.out.1],by rw [← HE3.out,← HMN.out.2],⟨⟨nd+nq,by first|rfl|exact World.drewN_drewN ..⟩⟩⟩
    ·have f0:decide (f<m)=false:=by simp;omega
     have HE3:=Aside0.mk (show j=en by rw [← HE.out,common_stop (fun h _=>by simp at h;omega)];rfl)
     have HMN:=Aside0.mk (And.intro hm hn)
     clear HE hm hn
     go_wp2
     go_quiet (fail)
     go_wp2
     go_meet
     exact ⟨by rw [← HE3.out,← HMN.out.1],by rw [← HE3.out,← HMN.out.2],⟨⟨nd+nq,by first|rfl|exact World.drewN_drewN ..⟩⟩⟩
  case rest =>
   obtain ⟨rfl,rfl,⟨nd,rfl⟩⟩:=hcut
   have hle:=HLE.out
   obtain ⟨m,hm⟩:∃ m,m=l0.length - en:=⟨_,rfl⟩
   obtain ⟨n,hn⟩:∃ n,n=l1.length - en:=⟨_,rfl⟩
   rw [← hm,← hn]
   obtain ⟨Ax,hsx,hCx,hcx⟩:=cutMid A0 c0 l0 f m (by omega) (by omega) HC0.out
   obtain ⟨Ay,hsy,hCy,hcy⟩:=cutMid A1 c1 l1 f n (by omega) (by omega) HC1.out
   have HX:=Aside0.mk (And.intro (hCx w HR0.out) hcx)
   have HY:=Aside0.mk (And.intro (hCy w HR1.out) hcy)
   have HBT:=Aside0.mk (show between l0 l1=midEdits (f:Int) ((l0.drop f).take (m - f)) ((l1.drop f).take (n - f)) by
    rw [between,midOf,← HFE.out.1,← HFE.out.2,List.length_drop,List.length_drop,hm,hn,show l0.length - f - en=l0.length - en - f by omega,show l1.length - f - en=l1.length - en - f by omega])
   have HXL:=Aside0.mk (show ((l0.drop f).take (m - f)).length≤1048576∧((l1.drop f).take (n - f)).length≤1048576 by rw [List.length_take,List.length_take,List.length_drop,List.length_drop];omega)
   generalize (l0.drop f).take (m - f)=x at *
   generalize (l1.drop f).take (n - f)=y at *
   have hxl:x.length≤1048576:=HXL.out.1
   have hyl:y.length≤1048576:=HXL.out.2
   have g0:f≤m:=by omega
   have g1:f≤n:=by omega
   have g2:m≤l0.length:=by omega
   have g3:n≤l1.length:=by omega
   have hfs:f≤1048576:=by omega
   clear hm hn hle HF HEN HLE HFE hCx hCy hcx hcy HXL
   go_upto_region 11 with (fail)
   go_cut [82] (fun v82 wc=>v82=.bool (decide (x.length=0∧y.length=0))∧Drawn0 w wc)
   case first=>as_aux_lemma =>
    by_cases hx0:x.length=0
    ·have k1:((x.length:Int) == 0)=true:=beq_iff_eq.2 (by omega)
     have k2:(x.length == 0)=true:=beq_iff_eq.2 (by omega)
     by_cases hy0:y.length=0
     ·have k3:((y.length:Int) == 0)=true:=beq_iff_eq.2 (by omega)
      have k4:(y.length == 0)=true:=beq_iff_eq.2 (by omega)
      have HXY:=Aside0.mk (And.intro hx0 hy0)
      clear hx0 hy0
      go_wp2_with (fail)
      go_meet
      exact ⟨by rw [decide_eq_true HXY.out],⟨⟨nd,rfl⟩⟩⟩
     ·have k3:((y.length:Int) == 0)=false:=beq_eq_false_iff_ne.2 (by omega)
      have k4:(y.length == 0)=false:=beq_eq_false_iff_ne.2 (by omega)
      have HY0:=Aside0.mk hy0
      clear hx0 hy0
      go_wp2_with (fail)
      go_meet
      exact ⟨by rw [decide_eq_false (fun h=>HY0.out h.2)],⟨⟨nd,rfl⟩⟩⟩
    ·have k1:((x.length:Int) == 0)=false:=beq_eq_false_iff_ne.2 (by omega)
     have k2:(x.length == 0)=false:=beq_eq_false_iff_ne.2 (by omega)
     have HX0:=Aside0.mk hx0
     clear hx0
     go_wp2_with (fail)
     go_meet
     exact ⟨by rw [decide_eq_false (fun h=>HX0.out h.1)],⟨⟨nd,rfl⟩⟩⟩
   case rest =>
    obtain ⟨rfl,⟨nd,rfl⟩⟩:=hcut
    by_cases hxy:x.length=0∧y.length=0
    ·have HXY:=Aside0.mk hxy
     rw [decide_eq_true hxy]
     clear hxy
     go_wp2
     go_ret
     refine ⟨_,rfl,?_,pw_below_drewN (Below.refl _ _) _⟩
     rw [HBT.out,midEdits,if_pos ⟨List.eq_nil_of_length_eq_zero HXY.out.1,List.eq_nil_of_length_eq_zero HXY.out.2⟩]
     exact Kd.S_nil _ _ _ _ _
    ·have HXY:=Aside0.mk hxy
     rw [decide_eq_false hxy]
     clear hxy
     go_upto_region 13 with (fail)
     go_cut [98] (fun v98 wc=>v98=.bool (decide (x.length=0∨y.length=0∨65536<x.length * y.length))∧Drawn0 w wc)
     case first=>as_aux_lemma =>
      by_cases hx0:x.length=0
      ·have k1:((x.length:Int) == 0)=true:=beq_iff_eq.2 (by omega)
       have k2:(x.length == 0)=true:=beq_iff_eq.2 (by omega)
       have HX0:=Aside0.mk hx0
       clear hx0
       go_wp2_with (fail)
       go_meet
       exact ⟨by rw [decide_eq_true (Or.inl HX0.out)],⟨⟨nd,rfl⟩⟩⟩
      ·have k1:((x.length:Int) == 0)=false:=beq_eq_false_iff_ne.2 (by omega)
       have k2:(x.length == 0)=false:=beq_eq_false_iff_ne.2 (by omega)
       by_cases hy0:y.length=0
       ·have k3:((y.length:Int) == 0)=true:=beq_iff_eq.2 (by omega)
        have k4:(y.length == 0)=true:=beq_iff_eq.2 (by omega)
        have HY0:=Aside0.mk hy0
        clear hx0 hy0
        go_wp2_with (fail)
        go_meet
        exact ⟨by rw [decide_eq_true (Or.inr (Or.inl HY0.out))],⟨⟨nd,rfl⟩⟩⟩
       ·have k3:((y.length:Int) == 0)=false:=beq_eq_false_iff_ne.2 (by omega)
        have k4:(y.length == 0)=false:=beq_eq_false_iff_ne.2 (by omega)
        obtain ⟨b,hb⟩:∃ b:Bool,b=decide (65536<x.length * y.length):=⟨_,rfl⟩
        obtain ⟨pr,hpr⟩:∃ p:Int,p=(x.length:Int) * (y.length:Int):=⟨_,rfl⟩
        have hpb:0≤pr∧pr≤1099511627776:=by
         have h:=Nat.mul_le_mul hxl hyl
         rw [hpr,← Int.natCast_mul]
         omega
        have kp:IntKind.i64.wrap ((x.length:Int) * (y.length:Int))=pr:=by rw [← hpr];exact IntWalk.i64_in _ (by omega)
        have kb:decide ((65536:Int)<pr)=b:=by
         rw [hb,hpr,← Int.natCast_mul]
         exact decide_eq_decide.2 (by omega)
        have HBB:=Aside0.mk (show b=decide (x.length=0∨y.length=0∨65536<x.length * y.length) by rw [hb];exact decide_eq_decide.2 (by omega))
        clear hb hpr hpb hx0 hy0
        go_wp2_with (fail)
        go_meet
        exact ⟨by rw [HBB.out],⟨⟨nd,rfl⟩⟩⟩
     case rest =>
      obtain ⟨rfl,⟨nd,rfl⟩⟩:=hcut
      by_cases hbig:x.length=0∨y.length=0∨65536<x.length * y.length
      ·have HBG:=Aside0.mk hbig
       rw [decide_eq_true hbig]
       clear hbig
       go_wp2_with (first
        | ((with_reducible refine gate_dst (N:=102) rfl ?_);(try (refine gate_guard (by rfl) ?_;dsimp only));refine Kd.R_lit Kd.string (w0:=w) w.heap.size 9 ?hg (N:=102) ?hd (xs:=([]:List ByteArray)) (inner:=[]) (ok:=fun _=>True) (okp:=fun _=>True) ?hr ?hp (fun _ hk=>hk) trivial ?hbl ?hsz (by simp) ?_;(case hd=>rfl);(case hg=>rfl);(case hr=>first|(go_simp;done)|(go_simp;rfl));(case hp=>exact (Reps.none _ _));(case hbl=>exact pw_below_drewN (Below.refl _ _) nd);(case hsz=>exact Nat.le_refl _);intro v1 w1 ho hb hg_ hnew_;clear hg_ hnew_;have HO:=Aside0.mk ho;have HB:=Aside0.mk hb;clear ho hb)
        | ((with_reducible refine gate_builtin (b:=.append) (xs:=#[.tmp 102,.tmp 103]) rfl ?_);(try (refine gate_guard (by rfl) ?_;dsimp only));at_builtin;refine Kd.R_append_rows Kd.string (w0:=w) w.heap.size rfl (.tmp 102) (.tmp 103) 22 9 (.string ⟨#[]⟩) 16 rfl Try.underlying22 ginfoStrW rfl (by decide) (by omega) v1 [] y _ _ _ (fun _=>True) (fun _=>False) rfl rfl HO.out (Kd.C_below HY.out.1 HB.out) (fun _ _ h=>h) (fun _ h=>h.elim) (fun _ _=>trivial) HB.out HB.out.size (by simp;omega) ?_;intro v2 w2 ho hb hg hat;rw [List.nil_append] at ho;obtain ⟨A3,c3,e3⟩:=Kd.R_slice ho;subst e3;have HO2:=Aside0.mk ho;have HB2:=Aside0.mk hb;clear ho hb hg hat))
       go_ret
       rw [HBT.out,midEdits,if_neg (fun h=>HXY.out ⟨by rw [h.1];rfl,by rw [h.2];rfl⟩),if_pos (by
        rcases HBG.out with h|h|h
        ·exact .inl (List.eq_nil_of_length_eq_zero h)
        ·exact .inr (.inl (List.eq_nil_of_length_eq_zero h))
        ·exact .inr (.inr h))]
       refine ⟨_,rfl,own_single (by simpa using HO2.out) HB2.out.size,below_alloc HB2.out _⟩
      ·have HBG:=Aside0.mk hbig
       rw [decide_eq_false hbig]
       clear hbig
       have hcx:=HX.out.2
       have hcy:=HY.out.2
       have HXC:=Aside0.mk (And.intro hcx hcy)
       clear hcx hcy
       go_upto_block 4 with (fail)
       go_wp2_with (fail)
       go_loopg [8,9,10,11,12] (x.length+y.length) (fun kq v8 v9 v10 v11 v12 wr=>∃ (x' y':List ByteArray) (B0 B1:Option Addr) (d0 d1 nx ny a:Nat) (op:Bool) (out:List Ed),v8=.slice B0 nx d0∧v9=.slice B1 ny d1∧v11=.bool op∧v12=.int .i64 a∧Aside0 (nx=x'.length∧ny=y'.length)∧Aside0 (nx+ny≤kq)∧Aside0 (DRel w.heap.size w B0 d0 x' B1 d1 y' a x.length y.length f (edits (f:Int) false [] (steps x y)) v10 op out wr))
       case atStart=>exact ⟨x,y,Ax,Ay,c0 - f,c1 - f,x.length,y.length,f,false,[],rfl,rfl,rfl,rfl,⟨rfl,rfl⟩,⟨Nat.le_refl _⟩,⟨⟨HX.out.1,HY.out.1,HXC.out.1,HXC.out.2,Nat.le_refl _,Nat.le_refl _,rfl,(by simp),rfl,Kd.S_nil _ _ _ _ _,(by simp),(by simp),pw_below_drewN (Below.refl _ _) nd⟩⟩⟩
       case round =>
        clear HX HY HXC HR0 HC0 HR1 HC1
        obtain ⟨x',y',B0,B1,d0,d1,nx,ny,a,op,out,rfl,rfl,rfl,rfl,HN,HQ,HW⟩:=hrel
        have hnx:nx≤1048576:=by have h1:=HN.out.1;have h2:=HW.out.hlx;omega
        have hny:ny≤1048576:=by have h1:=HN.out.2;have h2:=HW.out.hly;omega
        have hna:a≤2097152:=by have h2:=HW.out.pos;omega
        have ka:IntKind.i64.wrap ((a:Int)+1)=(a:Int)+1:=IntWalk.i64_in _ (by omega)
        by_cases hend:nx=0∧ny=0
        ·obtain ⟨hx0,hy0⟩:=hend
         have f0:decide (0<nx)=false:=by simp;omega
         have f1:decide (0<ny)=false:=by simp;omega
         have HE:=Aside0.mk (show out=edits (f:Int) false [] (steps x y) by
          have h:=HW.out.goes
          rw [List.eq_nil_of_length_eq_zero (HN.out.1.symm.trans hx0),List.eq_nil_of_length_eq_zero (HN.out.2.symm.trans hy0)] at h
          simpa [steps,edits] using h)
         subst hx0 hy0
         go_wp2
         go_ret
         refine ⟨_,rfl,?_,HW.out.bel⟩
         rw [HBT.out,midEdits,if_neg (fun h=>HXY.out ⟨by rw [h.1];rfl,by rw [h.2];rfl⟩),if_neg (by
          rintro (h|h|h)
          ·exact HBG.out (.inl (by rw [h];rfl))
          ·exact HBG.out (.inr (.inl (by rw [h];rfl)))
          ·exact HBG.out (.inr (.inr h))),← HE.out]
         exact HW.out.own
        ·obtain ⟨gk',HG⟩:∃ m,Aside0 (gk=m+1):=⟨gk - 1,⟨by have:=HQ.out;omega⟩⟩
         by_cases h1:0<nx
         ·by_cases h2:0<ny
          ·skip
           have f0:decide (0<nx)=true:=by simp;omega
           have g0:(0:Int)<(nx:Int):=by omega
           have p0:0<x'.length:=by have:=HN.out.1;omega
           obtain ⟨ad1,e1,hx1⟩:=at_head (Kd.C_below HW.out.cx HW.out.bel) p0
           cases e1
           obtain ⟨B0',sx,hCx,hlx,hdx⟩:=cutOne _ d0 nx x' HN.out.1 h1 (by have h2:=HN.out.1;have h3:=HW.out.dx;omega)
           have HCX:=Aside0.mk (And.intro (hCx w HW.out.cx) (And.intro hlx hdx))
           clear hCx hlx hdx
           have f1:decide (0<ny)=true:=by simp;omega
           have g1:(0:Int)<(ny:Int):=by omega
           have q0:0<y'.length:=by have:=HN.out.2;omega
           obtain ⟨ad2,e2,hx2⟩:=at_head (Kd.C_below HW.out.cy HW.out.bel) q0
           cases e2
           obtain ⟨B1',sy,hCy,hly,hdy⟩:=cutOne _ d1 ny y' HN.out.2 h2 (by have h2:=HN.out.2;have h3:=HW.out.dy;omega)
           have HCY:=Aside0.mk (And.intro (hCy w HW.out.cy) (And.intro hly hdy))
           clear hCy hly hdy
           by_cases he:x'[0]=y'[0]
           ·as_aux_lemma =>
            have f5:((x'[0]).toList == (y'[0]).toList)=true:=(Lib.bytes_beq_iff _ _).2 he
            have HK:=Aside0.mk (head_keep p0 q0 he)
            generalize x'[0]=s1 at *
            generalize y'[0]=s2 at *
            clear hend he p0 q0
            go_wp2
            go_quiet (fail)
            go_wp2
            go_roundg gk'
            case measure=>have:=HG.out;omega
            case rel =>
             have h:=HW.out.drewN nq
             have e1:=HCX.out.2.1
             have e2:=HCY.out.2.1
             have n1:=HN.out.1
             have n2:=HN.out.2
             refine ⟨x'.drop 1,y'.drop 1,B0',B1',d0 - 1,d1 - 1,nx - 1,ny - 1,a+1,false,out,rfl,rfl,rfl,by go_num,⟨e1.symm,e2.symm⟩,⟨by have:=HQ.out;have:=HG.out;omega⟩,⟨?_⟩⟩
             exact ⟨HCX.out.1,HCY.out.1,by rw [e1];exact HCX.out.2.2,by rw [e2];exact HCY.out.2.2,by have:=h.hlx;omega,by have:=h.hly;omega,by have:=h.pos;omega,by simp,by have h3:=h.goes;rw [HK.out] at h3;simpa [edits] using h3,h.own,by have:=h.len;omega,fun e he=>by have:=h.del e he;omega,h.bel⟩
           ·by_cases hl:lcsLen x' (y'.drop 1)≤lcsLen (x'.drop 1) y'
            ·as_aux_lemma =>
             have HK:=Aside0.mk (head_del p0 q0 he hl)
             have HLn:=Aside0.mk (show out.length≤2097152 by have:=HW.out.len;omega)
             have f5:((x'[0]).toList == (y'[0]).toList)=false:=(Lib.bytes_beq_false_iff _ _).2 he
             obtain ⟨K1,hK1⟩:=(Common_ev (x'.drop 1) y' (by have:=HCX.out.2.1;omega) (by have:=HN.out.2;omega)).rounds
             obtain ⟨K2,hK2⟩:=(Common_ev x' (y'.drop 1) (by have:=HN.out.1;omega) (by have:=HCY.out.2.1;omega)).rounds
             have HCM:=Aside0.mk (And.intro hK1 hK2)
             obtain ⟨c1,hc1⟩:∃ c:Int,c=(lcsLen (x'.drop 1) y':Int):=⟨_,rfl⟩
             obtain ⟨c2,hc2⟩:∃ c:Int,c=(lcsLen x' (y'.drop 1):Int):=⟨_,rfl⟩
             rw [← hc1,← hc2] at HCM
             have f6:decide (c2≤c1)=true:=decide_eq_true (by rw [hc1,hc2];exact_mod_cast hl)
             clear hK1 hK2 hc1 hc2 hl
             generalize x'[0]=s1 at *
             generalize y'[0]=s2 at *
             clear he
             clear hend
             go_upto_if 140 with (fail)
             go_quiet (fail)
             go_upto_if 140 with (fail)
             have HM:=Aside0.mk (DMid.mk (HW.out.drewN nq).own (HW.out.drewN nq).bel)
             go_cut [10,11] (fun v10 v11 wc=>v11=.bool true∧Aside0 (DMid w.heap.size w v10 (opened (a:Int) op out) wc))
             case first =>
              cases op
              ·go_wp2_with (first|((with_reducible refine gate_builtin (b:=.append) (xs:=#[.tmp 141,.tmp 144]) rfl ?_);at_builtin;refine Kd.S_append k52 (w0:=w) w.heap.size rfl (.tmp 141) (.tmp 144) 41 52 (.agg #[(.int .i64 0),(.int .i64 0),(.slice none 0 0)]) 40 rfl Try.underlying41 ginfoEd rfl (by decide) (by omega) _ out (⟨(a:Int),0,[]⟩:Ed) [.int .i64 (a:Int),.int .i64 0,.slice none 0 0] (fun _=>True) (fun _=>False) rfl rfl (k52_mkM _ _ _ (⟨(a:Int),0,[]⟩:Ed) (Kd.R_nil _ _ _ _ _)) (fun _ h=>h.elim) (fun _ _=>trivial) (Kd.S_mono HM.out.own (fun _ _=>⟨trivial,id⟩)) HM.out.bel HM.out.bel.size (by have:=HLn.out;omega) ?_;intro v2 w2 ho hb hg hat;have HM2:=Aside0.mk (DMid.mk ho hb);clear ho hb hg hat))
               go_meet
               exact ⟨rfl,HM2⟩
              ·go_wp2
               go_meet
               exact ⟨rfl,HM⟩
             case rest =>
              clear HM
              obtain ⟨rfl,HM⟩:=hcut
              have HON:=Aside0.mk (opened_ne (a:Int) op out HW.out.ne)
              have HOL:=Aside0.mk (show (opened (a:Int) op out).length+x'.length+y'.length≤x.length+y.length+1 by have:=opened_len (a:Int) op out;have:=HW.out.len;omega)
              have HOD:=Aside0.mk (opened_del2 (at_:=(a:Int)) (op:=op) HW.out.hlx HW.out.hly HW.out.del)
              have HGO:=Aside0.mk (show edits (a:Int) op out (steps x' y')=_ from HW.out.goes)
              rw [HK.out] at HGO
              simp only [edits] at HGO
              clear HK HLn
              generalize opened (a:Int) op out=out' at *
              have hp:0<out'.length:=List.length_pos_iff.2 HON.out
              have hp2:out'.length≤2097153:=by have:=HOL.out;omega
              obtain ⟨g,cap,ev,hgb,hgl,HGc⟩:=Kd.S_form HM.out.own hp
              subst ev
              obtain ⟨jl,hjl⟩:∃ j:Int,j=(out'.length:Int) - 1:=⟨_,rfl⟩
              have kj:IntKind.i64.wrap ((out'.length:Int) - 1)=jl:=by rw [hjl];exact IntWalk.i64_in _ (by omega)
              have j0:0≤jl:=by omega
              have j1:jl<(out'.length:Int):=by omega
              have HJ:=Aside0.mk (show jl.toNat=out'.length - 1 by omega)
              have GB:=Aside0.mk hgb
              clear hjl hgl hgb HGc
              have k3:((ny:Int) == 0)=false:=beq_eq_false_iff_ne.2 (by omega)
              have k4:(ny == 0)=false:=beq_eq_false_iff_ne.2 (by omega)
              have n1:=HN.out.1
              have n2:=HN.out.2
              have e1:=HCX.out.2.1
              have e2:=HCY.out.2.1
              have HC1:=Aside0.mk (show ∀ W,Below w.heap.size w W→Calls Try.prog 34 #[.slice B0' (nx - 1) (d0 - 1),.slice (some ad2) ny d1] W fun e w'=>e=.returned (.int .i64 c1)∧Below W.heap.size W w' from fun W hW=>by
               have h:=r04_Common.calls K1 B0' (d0 - 1) (x'.drop 1) (some ad2) d1 y' c1 W (Kd.C_below HCX.out.1 hW) (by rw [e1];exact HCX.out.2.2) (Kd.C_below HW.out.cy hW) HW.out.dy HCM.out.1
               rw [e1,← n2] at h
               exact h)
              have HC2:=Aside0.mk (show ∀ W,Below w.heap.size w W→Calls Try.prog 34 #[.slice (some ad1) nx d0,.slice B1' (ny - 1) (d1 - 1)] W fun e w'=>e=.returned (.int .i64 c2)∧Below W.heap.size W w' from fun W hW=>by
               have h:=r04_Common.calls K2 (some ad1) d0 x' B1' (d1 - 1) (y'.drop 1) c2 W (Kd.C_below HW.out.cx hW) HW.out.dx (Kd.C_below HCY.out.1 hW) (by rw [e2];exact HCY.out.2.2) HCM.out.2
               rw [e2,← n1] at h
               exact h)
              clear n1 n2 e1 e2
              go_upto_region 29 with (fail)
              have HMd:=Aside0.mk HM.out.drew
              refine start_ (n:=10) (S:=fun w'=>True) (ds:=[]) #[false,false,false,false,false,false,false,false,false,false] (by kernel_rfl) rfl rfl trivial (fun hHeld=>?_)
              refine with_tabW gref_Diff.tab29 gref_Diff.bits29 (fun HT_ HW_=>?_)
              refine pure_ (i:=0) (N:=some 157) (v:=?_) (a':=?_) #[true,false,false,false,false,false,false,false,false,false] rfl rfl (any_of HT_.out (by kernel_rfl)) (fun _ _ _ h=>h) (Or.inl ⟨by rfl,?_⟩) ?_ ?_
              rotate_left
              ·intro w'
               go_simp
               with_reducible rfl
              rotate_left
              ·simp only [Act.put,List.setIfInBounds_toArray,List.set_cons_zero,List.set_cons_succ,i64_w,i32_w]
               rfl
              refine pure_ (i:=1) (N:=some 158) (v:=?_) (a':=?_) #[true,true,false,false,false,false,false,false,false,false] rfl rfl (any_of HT_.out (by kernel_rfl)) (fun _ _ _ h=>h) (Or.inl ⟨by rfl,?_⟩) ?_ ?_
              rotate_left
              ·intro w'
               go_simp
               with_reducible rfl
              rotate_left
              ·simp only [Act.put,List.setIfInBounds_toArray,List.set_cons_zero,List.set_cons_succ,i64_w,i32_w]
               rfl
              refine pure_ (i:=2) (N:=some 159) (v:=?_) (a':=?_) #[true,true,true,false,false,false,false,false,false,false] rfl rfl (any_of HT_.out (by kernel_rfl)) (fun _ _ _ h=>h) (Or.inl ⟨by rfl,?_⟩) ?_ ?_
              rotate_left
              ·intro w'
               go_simp
               with_reducible rfl
              rotate_left
              ·simp only [Act.put,List.setIfInBounds_toArray,List.set_cons_zero,List.set_cons_succ,i64_w,i32_w]
               rfl
              refine pure_ (i:=4) (N:=some 161) (v:=?_) (a':=?_) #[true,true,true,false,true,false,false,false,false,false] rfl rfl (any_of HT_.out (by kernel_rfl)) (fun _ _ _ h=>h) (Or.inl ⟨by rfl,?_⟩) ?_ ?_
              rotate_left
              ·intro w'
               go_simp
               with_reducible rfl
              rotate_left
              ·simp only [Act.put,List.setIfInBounds_toArray,List.set_cons_zero,List.set_cons_succ,i64_w,i32_w]
               rfl
              refine pure_ (i:=5) (N:=some 162) (v:=?_) (a':=?_) #[true,true,true,false,true,true,false,false,false,false] rfl rfl (any_of HT_.out (by kernel_rfl)) (fun _ _ _ h=>h) (Or.inl ⟨by rfl,?_⟩) ?_ ?_
              rotate_left
              ·intro w'
               go_simp
               with_reducible rfl
              rotate_left
              ·simp only [Act.put,List.setIfInBounds_toArray,List.set_cons_zero,List.set_cons_succ,i64_w,i32_w]
               rfl
              refine pure_ (i:=6) (N:=some 163) (v:=?_) (a':=?_) #[true,true,true,false,true,true,true,false,false,false] rfl rfl (any_of HT_.out (by kernel_rfl)) (fun _ _ _ h=>h) (Or.inl ⟨by rfl,?_⟩) ?_ ?_
              rotate_left
              ·intro w'
               go_simp
               with_reducible rfl
              rotate_left
              ·simp only [Act.put,List.setIfInBounds_toArray,List.set_cons_zero,List.set_cons_succ,i64_w,i32_w]
               rfl
              refine one_ (i:=3) (N:=some 160) #[true,true,true,true,true,true,true,false,false,false] rfl rfl (one_of HT_.out (by kernel_rfl)) (by decide) (fun K hK=>?_)
              refine goes_ Try.func34 (by kernel_rfl) rfl #[.slice B0' (nx - 1) (d0 - 1),.slice (some ad2) ny d1] (by rfl) rfl rfl (by simp only [List.map_toArray,List.map_cons,List.map_nil];rfl) ?_
              with_reducible refine (HC1.out _ HMd.out.bel).mono ?_
              rintro e w5 ⟨rfl,hb⟩
              refine ⟨_,rfl,?_⟩
              have HMa:=Aside0.mk (HMd.out.below (Nat.le_refl _) hb HMd.out.bel.size)
              clear hb
              refine hK.out _ _ trivial (fun hHeld=>?_)
              clear hK K
              refine norm_ (a':=?_) ?_ ?_
              rotate_left
              ·show Act.put _ (some 160) _=_
               simp only [Act.put,List.setIfInBounds_toArray,List.set_cons_zero,List.set_cons_succ,i64_w,i32_w]
               rfl
              refine one_ (i:=7) (N:=some 164) #[true,true,true,true,true,true,true,true,false,false] rfl rfl (one_of HT_.out (by kernel_rfl)) (by decide) (fun K hK=>?_)
              refine goes_ Try.func34 (by kernel_rfl) rfl #[.slice (some ad1) nx d0,.slice B1' (ny - 1) (d1 - 1)] (by rfl) rfl rfl (by simp only [List.map_toArray,List.map_cons,List.map_nil];rfl) ?_
              with_reducible refine (HC2.out _ HMa.out.bel).mono ?_
              rintro e w6 ⟨rfl,hb⟩
              refine ⟨_,rfl,?_⟩
              have HMb:=Aside0.mk (HMa.out.below (Nat.le_refl _) hb HMa.out.bel.size)
              clear hb
              refine hK.out _ _ trivial (fun hHeld=>?_)
              clear hK K
              refine norm_ (a':=?_) ?_ ?_
              rotate_left
              ·show Act.put _ (some 164) _=_
               simp only [Act.put,List.setIfInBounds_toArray,List.set_cons_zero,List.set_cons_succ,i64_w,i32_w]
               rfl
              refine pure_ (i:=8) (N:=some 165) (v:=?_) (a':=?_) #[true,true,true,true,true,true,true,true,true,false] rfl rfl (any_of HT_.out (by kernel_rfl)) (fun _ _ _ h=>h) (Or.inl ⟨by rfl,?_⟩) ?_ ?_
              rotate_left
              ·intro w'
               go_simp
               with_reducible rfl
              rotate_left
              ·simp only [Act.put,List.setIfInBounds_toArray,List.set_cons_zero,List.set_cons_succ,i64_w,i32_w]
               rfl
              refine pure_ (i:=9) (N:=some 13) (v:=?_) (a':=?_) #[true,true,true,true,true,true,true,true,true,true] rfl rfl (any_of HT_.out (by kernel_rfl)) (fun _ _ _ h=>h) (Or.inl ⟨by rfl,?_⟩) ?_ ?_
              rotate_left
              ·intro w'
               go_simp
               with_reducible rfl
              rotate_left
              ·simp only [Act.put,List.setIfInBounds_toArray,List.set_cons_zero,List.set_cons_succ,i64_w,i32_w]
               rfl
              refine done_ (done_of HT_.out (by kernel_rfl)) ?_

              clear HM HMd HMa HC1 HC2 hx1 hx2
              have HM:=HMb
              clear HMb
              obtain ⟨hd1,hd2,hd3,hd4⟩:=own_del HM.out.own HON.out j0 HJ.out
              have HD3:=Aside0.mk hd3
              have HEL:=HOD.out _ (edLast_mem HON.out)
              have hb1:0≤(edLast out').f1:=HEL.1
              have hb2:(edLast out').f1≤1048576:=by have:=HEL.2.1;omega
              have HE2:=Aside0.mk HEL
              clear hd3 hd4 HEL
              go_wp2
              go_roundg gk'
              case measure=>have:=HG.out;omega
              case rel =>
               have e1:=HCX.out.2.1
               have n1:=HN.out.1
               have h:=HW.out
               refine ⟨x'.drop 1,y',B0',_,d0 - 1,d1,nx - 1,ny,a+1,true,addDel out',rfl,rfl,rfl,by go_num,⟨e1.symm,HN.out.2⟩,⟨by have:=HQ.out;have:=HG.out;omega⟩,⟨?_⟩⟩
               refine ⟨HCX.out.1,h.cy,by rw [e1];exact HCX.out.2.2,h.dy,by have:=h.hlx;omega,h.hly,by have:=h.pos;omega,fun _=>addDel_ne _ HON.out,by simpa using HGO.out,?_,by rw [addDel_len];have:=HOL.out;omega,?_,below_set HM.out.bel GB.out⟩
               ·have h2:=HD3.out
                have h3:=addDel_len out'
                exact h2
               ·intro e he
                rcases mem_addDel HON.out he with he|rfl
                ·have:=HOD.out e he;omega
                ·have:=HE2.out;exact ⟨by show 0≤_+_;omega,by show _+_+_≤_;omega,this.2.2⟩
            ·as_aux_lemma =>
             have HK:=Aside0.mk (head_ins p0 q0 he hl)
             have HLn:=Aside0.mk (show out.length≤2097152 by have:=HW.out.len;omega)
             have f5:((x'[0]).toList == (y'[0]).toList)=false:=(Lib.bytes_beq_false_iff _ _).2 he
             obtain ⟨K1,hK1⟩:=(Common_ev (x'.drop 1) y' (by have:=HCX.out.2.1;omega) (by have:=HN.out.2;omega)).rounds
             obtain ⟨K2,hK2⟩:=(Common_ev x' (y'.drop 1) (by have:=HN.out.1;omega) (by have:=HCY.out.2.1;omega)).rounds
             have HCM:=Aside0.mk (And.intro hK1 hK2)
             obtain ⟨c1,hc1⟩:∃ c:Int,c=(lcsLen (x'.drop 1) y':Int):=⟨_,rfl⟩
             obtain ⟨c2,hc2⟩:∃ c:Int,c=(lcsLen x' (y'.drop 1):Int):=⟨_,rfl⟩
             rw [← hc1,← hc2] at HCM
             have f6:decide (c2≤c1)=false:=decide_eq_false (by rw [hc1,hc2];exact_mod_cast hl)
             clear hK1 hK2 hc1 hc2 hl
             have HS2:=Aside0.mk (at_some HW.out.cy q0)
             generalize x'[0]=s1 at *
             generalize y'[0]=s2 at *
             clear he
             clear hend
             go_upto_if 140 with (fail)
             go_quiet (fail)
             go_upto_if 140 with (fail)
             have HM:=Aside0.mk (DMid.mk (HW.out.drewN nq).own (HW.out.drewN nq).bel)
             go_cut [10,11] (fun v10 v11 wc=>v11=.bool true∧Aside0 (DMid w.heap.size w v10 (opened (a:Int) op out) wc))
             case first =>
              cases op
              ·go_wp2_with (first|((with_reducible refine gate_builtin (b:=.append) (xs:=#[.tmp 141,.tmp 144]) rfl ?_);at_builtin;refine Kd.S_append k52 (w0:=w) w.heap.size rfl (.tmp 141) (.tmp 144) 41 52 (.agg #[(.int .i64 0),(.int .i64 0),(.slice none 0 0)]) 40 rfl Try.underlying41 ginfoEd rfl (by decide) (by omega) _ out (⟨(a:Int),0,[]⟩:Ed) [.int .i64 (a:Int),.int .i64 0,.slice none 0 0] (fun _=>True) (fun _=>False) rfl rfl (k52_mkM _ _ _ (⟨(a:Int),0,[]⟩:Ed) (Kd.R_nil _ _ _ _ _)) (fun _ h=>h.elim) (fun _ _=>trivial) (Kd.S_mono HM.out.own (fun _ _=>⟨trivial,id⟩)) HM.out.bel HM.out.bel.size (by have:=HLn.out;omega) ?_;intro v2 w2 ho hb hg hat;have HM2:=Aside0.mk (DMid.mk ho hb);clear ho hb hg hat))
               go_meet
               exact ⟨rfl,HM2⟩
              ·go_wp2
               go_meet
               exact ⟨rfl,HM⟩
             case rest =>
              clear HM
              obtain ⟨rfl,HM⟩:=hcut
              have HON:=Aside0.mk (opened_ne (a:Int) op out HW.out.ne)
              have HOL:=Aside0.mk (show (opened (a:Int) op out).length+x'.length+y'.length≤x.length+y.length+1 by have:=opened_len (a:Int) op out;have:=HW.out.len;omega)
              have HOD:=Aside0.mk (opened_del2 (at_:=(a:Int)) (op:=op) HW.out.hlx HW.out.hly HW.out.del)
              have HGO:=Aside0.mk (show edits (a:Int) op out (steps x' y')=_ from HW.out.goes)
              rw [HK.out] at HGO
              simp only [edits] at HGO
              clear HK HLn
              generalize opened (a:Int) op out=out' at *
              have hp:0<out'.length:=List.length_pos_iff.2 HON.out
              have hp2:out'.length≤2097153:=by have:=HOL.out;omega
              obtain ⟨g,cap,ev,hgb,hgl,HGc⟩:=Kd.S_form HM.out.own hp
              subst ev
              obtain ⟨jl,hjl⟩:∃ j:Int,j=(out'.length:Int) - 1:=⟨_,rfl⟩
              have kj:IntKind.i64.wrap ((out'.length:Int) - 1)=jl:=by rw [hjl];exact IntWalk.i64_in _ (by omega)
              have j0:0≤jl:=by omega
              have j1:jl<(out'.length:Int):=by omega
              have HJ:=Aside0.mk (show jl.toNat=out'.length - 1 by omega)
              have GB:=Aside0.mk hgb
              clear hjl hgl hgb HGc
              have k3:((ny:Int) == 0)=false:=beq_eq_false_iff_ne.2 (by omega)
              have k4:(ny == 0)=false:=beq_eq_false_iff_ne.2 (by omega)
              have n1:=HN.out.1
              have n2:=HN.out.2
              have e1:=HCX.out.2.1
              have e2:=HCY.out.2.1
              have HC1:=Aside0.mk (show ∀ W,Below w.heap.size w W→Calls Try.prog 34 #[.slice B0' (nx - 1) (d0 - 1),.slice (some ad2) ny d1] W fun e w'=>e=.returned (.int .i64 c1)∧Below W.heap.size W w' from fun W hW=>by
               have h:=r04_Common.calls K1 B0' (d0 - 1) (x'.drop 1) (some ad2) d1 y' c1 W (Kd.C_below HCX.out.1 hW) (by rw [e1];exact HCX.out.2.2) (Kd.C_below HW.out.cy hW) HW.out.dy HCM.out.1
               rw [e1,← n2] at h
               exact h)
              have HC2:=Aside0.mk (show ∀ W,Below w.heap.size w W→Calls Try.prog 34 #[.slice (some ad1) nx d0,.slice B1' (ny - 1) (d1 - 1)] W fun e w'=>e=.returned (.int .i64 c2)∧Below W.heap.size W w' from fun W hW=>by
               have h:=r04_Common.calls K2 (some ad1) d0 x' B1' (d1 - 1) (y'.drop 1) c2 W (Kd.C_below HW.out.cx hW) HW.out.dx (Kd.C_below HCY.out.1 hW) (by rw [e2];exact HCY.out.2.2) HCM.out.2
               rw [e2,← n1] at h
               exact h)
              clear n1 n2 e1 e2
              go_upto_region 29 with (fail)
              have HMd:=Aside0.mk HM.out.drew
              refine start_ (n:=10) (S:=fun w'=>True) (ds:=[]) #[false,false,false,false,false,false,false,false,false,false] (by kernel_rfl) rfl rfl trivial (fun hHeld=>?_)
              refine with_tabW gref_Diff.tab29 gref_Diff.bits29 (fun HT_ HW_=>?_)
              refine pure_ (i:=0) (N:=some 157) (v:=?_) (a':=?_) #[true,false,false,false,false,false,false,false,false,false] rfl rfl (any_of HT_.out (by kernel_rfl)) (fun _ _ _ h=>h) (Or.inl ⟨by rfl,?_⟩) ?_ ?_
              rotate_left
              ·intro w'
               go_simp
               with_reducible rfl
              rotate_left
              ·simp only [Act.put,List.setIfInBounds_toArray,List.set_cons_zero,List.set_cons_succ,i64_w,i32_w]
               rfl
              refine pure_ (i:=1) (N:=some 158) (v:=?_) (a':=?_) #[true,true,false,false,false,false,false,false,false,false] rfl rfl (any_of HT_.out (by kernel_rfl)) (fun _ _ _ h=>h) (Or.inl ⟨by rfl,?_⟩) ?_ ?_
              rotate_left
              ·intro w'
               go_simp
               with_reducible rfl
              rotate_left
              ·simp only [Act.put,List.setIfInBounds_toArray,List.set_cons_zero,List.set_cons_succ,i64_w,i32_w]
               rfl
              refine pure_ (i:=2) (N:=some 159) (v:=?_) (a':=?_) #[true,true,true,false,false,false,false,false,false,false] rfl rfl (any_of HT_.out (by kernel_rfl)) (fun _ _ _ h=>h) (Or.inl ⟨by rfl,?_⟩) ?_ ?_
              rotate_left
              ·intro w'
               go_simp
               with_reducible rfl
              rotate_left
              ·simp only [Act.put,List.setIfInBounds_toArray,List.set_cons_zero,List.set_cons_succ,i64_w,i32_w]
               rfl
              refine pure_ (i:=4) (N:=some 161) (v:=?_) (a':=?_) #[true,true,true,false,true,false,false,false,false,false] rfl rfl (any_of HT_.out (by kernel_rfl)) (fun _ _ _ h=>h) (Or.inl ⟨by rfl,?_⟩) ?_ ?_
              rotate_left
              ·intro w'
               go_simp
               with_reducible rfl
              rotate_left
              ·simp only [Act.put,List.setIfInBounds_toArray,List.set_cons_zero,List.set_cons_succ,i64_w,i32_w]
               rfl
              refine pure_ (i:=5) (N:=some 162) (v:=?_) (a':=?_) #[true,true,true,false,true,true,false,false,false,false] rfl rfl (any_of HT_.out (by kernel_rfl)) (fun _ _ _ h=>h) (Or.inl ⟨by rfl,?_⟩) ?_ ?_
              rotate_left
              ·intro w'
               go_simp
               with_reducible rfl
              rotate_left
              ·simp only [Act.put,List.setIfInBounds_toArray,List.set_cons_zero,List.set_cons_succ,i64_w,i32_w]
               rfl
              refine pure_ (i:=6) (N:=some 163) (v:=?_) (a':=?_) #[true,true,true,false,true,true,true,false,false,false] rfl rfl (any_of HT_.out (by kernel_rfl)) (fun _ _ _ h=>h) (Or.inl ⟨by rfl,?_⟩) ?_ ?_
              rotate_left
              ·intro w'
               go_simp
               with_reducible rfl
              rotate_left
              ·simp only [Act.put,List.setIfInBounds_toArray,List.set_cons_zero,List.set_cons_succ,i64_w,i32_w]
               rfl
              refine one_ (i:=3) (N:=some 160) #[true,true,true,true,true,true,true,false,false,false] rfl rfl (one_of HT_.out (by kernel_rfl)) (by decide) (fun K hK=>?_)
              refine goes_ Try.func34 (by kernel_rfl) rfl #[.slice B0' (nx - 1) (d0 - 1),.slice (some ad2) ny d1] (by rfl) rfl rfl (by simp only [List.map_toArray,List.map_cons,List.map_nil];rfl) ?_
              with_reducible refine (HC1.out _ HMd.out.bel).mono ?_
              rintro e w5 ⟨rfl,hb⟩
              refine ⟨_,rfl,?_⟩
              have HMa:=Aside0.mk (HMd.out.below (Nat.le_refl _) hb HMd.out.bel.size)
              clear hb
              refine hK.out _ _ trivial (fun hHeld=>?_)
              clear hK K
              refine norm_ (a':=?_) ?_ ?_
              rotate_left
              ·show Act.put _ (some 160) _=_
               simp only [Act.put,List.setIfInBounds_toArray,List.set_cons_zero,List.set_cons_succ,i64_w,i32_w]
               rfl
              refine one_ (i:=7) (N:=some 164) #[true,true,true,true,true,true,true,true,false,false] rfl rfl (one_of HT_.out (by kernel_rfl)) (by decide) (fun K hK=>?_)
              refine goes_ Try.func34 (by kernel_rfl) rfl #[.slice (some ad1) nx d0,.slice B1' (ny - 1) (d1 - 1)] (by rfl) rfl rfl (by simp only [List.map_toArray,List.map_cons,List.map_nil];rfl) ?_
              with_reducible refine (HC2.out _ HMa.out.bel).mono ?_
              rintro e w6 ⟨rfl,hb⟩
              refine ⟨_,rfl,?_⟩
              have HMb:=Aside0.mk (HMa.out.below (Nat.le_refl _) hb HMa.out.bel.size)
              clear hb
              refine hK.out _ _ trivial (fun hHeld=>?_)
              clear hK K
              refine norm_ (a':=?_) ?_ ?_
              rotate_left
              ·show Act.put _ (some 164) _=_
               simp only [Act.put,List.setIfInBounds_toArray,List.set_cons_zero,List.set_cons_succ,i64_w,i32_w]
               rfl
              refine pure_ (i:=8) (N:=some 165) (v:=?_) (a':=?_) #[true,true,true,true,true,true,true,true,true,false] rfl rfl (any_of HT_.out (by kernel_rfl)) (fun _ _ _ h=>h) (Or.inl ⟨by rfl,?_⟩) ?_ ?_
              rotate_left
              ·intro w'
               go_simp
               with_reducible rfl
              rotate_left
              ·simp only [Act.put,List.setIfInBounds_toArray,List.set_cons_zero,List.set_cons_succ,i64_w,i32_w]
               rfl
              refine pure_ (i:=9) (N:=some 13) (v:=?_) (a':=?_) #[true,true,true,true,true,true,true,true,true,true] rfl rfl (any_of HT_.out (by kernel_rfl)) (fun _ _ _ h=>h) (Or.inl ⟨by rfl,?_⟩) ?_ ?_
              rotate_left
              ·intro w'
               go_simp
               with_reducible rfl
              rotate_left
              ·simp only [Act.put,List.setIfInBounds_toArray,List.set_cons_zero,List.set_cons_succ,i64_w,i32_w]
               rfl
              refine done_ (done_of HT_.out (by kernel_rfl)) ?_

              clear HM HMd HMa HC1 HC2 hx1 hx2
              have HM:=HMb
              clear HMb
              have HM3:=Aside0.mk HM.out.drew
              obtain ⟨vi,Ai,ci,oki,evi,hs0,hri,hfr,hvg,hins⟩:=own_ins s2 HM3.out.own HON.out j0 HJ.out
              subst evi
              have hs1:=pw_cell_below HM3.out.bel HS2.out
              have HRI:=Aside0.mk hri
              have HFR:=Aside0.mk hfr
              have HIN:=Aside0.mk hins
              have HE2:=Aside0.mk (HOD.out _ (edLast_mem HON.out))
              have hel:(edLast out').f2.length≤1048576:=by have:=HE2.out;omega
              clear hri hfr hins hvg
              go_wp2
              refine start_ (n:=15) (S:=fun w'=>w'.cell? ⟨g,jl.toNat * 3+2,none⟩=some (.slice Ai (edLast out').f2.length ci)∧w'.cell? ad2=some (.string s2)) (ds:=[14]) #[false,false,false,false,false,false,false,false,false,false,false,false,false,false,false] (by kernel_rfl) rfl rfl ⟨hs0,hs1⟩ (fun hHeld=>?_)
              refine with_tabW gref_Diff.tab35 gref_Diff.bits35 (fun HT_ HW_=>?_)
              generalize w6.drew=w3 at HM3 HRI HFR HIN hs0 hs1 hHeld ⊢
              refine pure_ (i:=0) (N:=some 184) (v:=?_) (a':=?_) #[true,false,false,false,false,false,false,false,false,false,false,false,false,false,false] rfl rfl (any_of HT_.out (by kernel_rfl)) (fun _ _ _ h=>h) (Or.inl ⟨by rfl,?_⟩) ?_ ?_
              rotate_left
              ·intro w'
               go_simp
               with_reducible rfl
              rotate_left
              ·simp only [Act.put,List.setIfInBounds_toArray,List.set_cons_zero,List.set_cons_succ,i64_w,i32_w]
               rfl
              refine pure_ (i:=1) (N:=some 185) (v:=?_) (a':=?_) #[true,true,false,false,false,false,false,false,false,false,false,false,false,false,false] rfl rfl (any_of HT_.out (by kernel_rfl)) (fun _ _ _ h=>h) (Or.inl ⟨by rfl,?_⟩) ?_ ?_
              rotate_left
              ·intro w'
               go_simp
               with_reducible rfl
              rotate_left
              ·simp only [Act.put,List.setIfInBounds_toArray,List.set_cons_zero,List.set_cons_succ,i64_w,i32_w]
               rfl
              refine pure_ (i:=2) (N:=some 186) (v:=?_) (a':=?_) #[true,true,true,false,false,false,false,false,false,false,false,false,false,false,false] rfl rfl (any_of HT_.out (by kernel_rfl)) (fun _ _ _ h=>h) (Or.inl ⟨by rfl,?_⟩) ?_ ?_
              rotate_left
              ·intro w'
               go_simp
               with_reducible rfl
              rotate_left
              ·simp only [Act.put,List.setIfInBounds_toArray,List.set_cons_zero,List.set_cons_succ,i64_w,i32_w]
               rfl
              refine pure_ (i:=3) (N:=some 187) (v:=?_) (a':=?_) #[true,true,true,true,false,false,false,false,false,false,false,false,false,false,false] rfl rfl (any_of HT_.out (by kernel_rfl)) (fun _ _ _ h=>h) (Or.inl ⟨by rfl,?_⟩) ?_ ?_
              rotate_left
              ·intro w'
               go_simp
               with_reducible rfl
              rotate_left
              ·simp only [Act.put,List.setIfInBounds_toArray,List.set_cons_zero,List.set_cons_succ,i64_w,i32_w]
               rfl
              refine pure_ (i:=4) (N:=some 188) (v:=?_) (a':=?_) #[true,true,true,true,true,false,false,false,false,false,false,false,false,false,false] rfl rfl (any_of HT_.out (by kernel_rfl)) (fun _ _ _ h=>h) (Or.inl ⟨by rfl,?_⟩) ?_ ?_
              rotate_left
              ·intro w'
               go_simp
               with_reducible rfl
              rotate_left
              ·simp only [Act.put,List.setIfInBounds_toArray,List.set_cons_zero,List.set_cons_succ,i64_w,i32_w]
               rfl
              refine pure_ (i:=5) (N:=some 189) (v:=?_) (a':=?_) #[true,true,true,true,true,true,false,false,false,false,false,false,false,false,false] rfl rfl (any_of HT_.out (by kernel_rfl)) (fun _ _ _ h=>h) (Or.inl ⟨by rfl,?_⟩) ?_ ?_
              rotate_left
              ·intro w'
               go_simp
               with_reducible rfl
              rotate_left
              ·simp only [Act.put,List.setIfInBounds_toArray,List.set_cons_zero,List.set_cons_succ,i64_w,i32_w]
               rfl
              refine pure_ (i:=7) (N:=some 191) (v:=?_) (a':=?_) #[true,true,true,true,true,true,false,true,false,false,false,false,false,false,false] rfl rfl (any_of HT_.out (by kernel_rfl)) (fun _ _ _ h=>h) (Or.inl ⟨by rfl,?_⟩) ?_ ?_
              rotate_left
              ·intro w'
               go_simp
               with_reducible rfl
              rotate_left
              ·simp only [Act.put,List.setIfInBounds_toArray,List.set_cons_zero,List.set_cons_succ,i64_w,i32_w]
               rfl
              refine pure_ (i:=8) (N:=some 192) (v:=?_) (a':=?_) #[true,true,true,true,true,true,false,true,true,false,false,false,false,false,false] rfl rfl (any_of HT_.out (by kernel_rfl)) (fun _ _ _ h=>h) (Or.inl ⟨by rfl,?_⟩) ?_ ?_
              rotate_left
              ·intro w'
               go_simp
               with_reducible rfl
              rotate_left
              ·simp only [Act.put,List.setIfInBounds_toArray,List.set_cons_zero,List.set_cons_succ,i64_w,i32_w]
               rfl
              refine take_ (i:=6) (N:=some 190) (v:=?_) (a':=?_) #[true,true,true,true,true,true,true,true,true,false,false,false,false,false,false] rfl rfl (take_ofW HT_.out HW_.out (by kernel_rfl)) (fun _ _ _ h=>h) (Or.inl ⟨by rfl,?_⟩) hHeld ?_ ?_
              rotate_left
              ·rintro w' ⟨s0,s1⟩
               go_simp
               with_reducible rfl
              rotate_left
              ·simp only [Act.put,List.setIfInBounds_toArray,List.set_cons_zero,List.set_cons_succ,i64_w,i32_w]
               rfl
              refine take_ (i:=9) (N:=some 193) (v:=?_) (a':=?_) #[true,true,true,true,true,true,true,true,true,true,false,false,false,false,false] rfl rfl (take_ofW HT_.out HW_.out (by kernel_rfl)) (fun _ _ _ h=>h) (Or.inl ⟨by rfl,?_⟩) hHeld ?_ ?_
              rotate_left
              ·rintro w' ⟨s0,s1⟩
               go_simp
               with_reducible rfl
              rotate_left
              ·simp only [Act.put,List.setIfInBounds_toArray,List.set_cons_zero,List.set_cons_succ,i64_w,i32_w]
               rfl
              refine one_ (i:=10) (N:=some 194) #[true,true,true,true,true,true,true,true,true,true,true,false,false,false,false] rfl rfl (one_of HT_.out (by kernel_rfl)) (by decide) (fun K hK=>?_)
              refine value_ (w1:=?_) (v:=?_) (by rfl) rfl ?_ ?_
              rotate_left 2
              ·go_simp
               constructor
               ·rfl
               ·rfl
              refine hK.out _ _ ⟨(pw_cell_below (below_alloc (Below.refl _ _) _) hs0),(pw_cell_below (below_alloc (Below.refl _ _) _) hs1)⟩ (fun hHeld=>?_)
              clear hK K
              refine norm_ (a':=?_) ?_ ?_
              rotate_left
              ·show Act.put _ (some 194) _=_
               simp only [Act.put,List.setIfInBounds_toArray,List.set_cons_zero,List.set_cons_succ,i64_w,i32_w]
               rfl
              refine one_ (i:=11) (N:=some 195) #[true,true,true,true,true,true,true,true,true,true,true,true,false,false,false] rfl rfl (one_of HT_.out (by kernel_rfl)) (by decide) (fun K hK=>?_)
              refine Kd.R_append_step Kd.string (w0:=w) w.heap.size (by rfl) (.tmp 190) (.tmp 194) 22 9 (.string ⟨#[]⟩) 16 rfl Try.underlying22 ginfoStrW rfl (by decide) (by omega) (.slice Ai (edLast out').f2.length ci) (edLast out').f2 s2 [.string s2] oki (fun _=>False) rfl rfl rfl (fun _ h=>h.elim) HFR.out HRI.out HM3.out.bel HM3.out.bel.size (by omega) ?_
              intro v3 w5 ho hb hg hat
              obtain ⟨A3,c3,e3⟩:=Kd.R_slice ho
              rw [List.length_append,List.length_singleton] at e3
              subst e3
              obtain ⟨hc3,hf3,hS3,hg3,cg,hcg⟩:=HIN.out w3 w5 _ (Below.refl _ _) hg ho
              have HB5:=Aside0.mk hb
              have HS5:=Aside0.mk hS3
              have hs1':=pw_cell_below hb HS2.out
              clear ho hb hg hat hS3 hg3 hcg hs0 hs1
              refine hK.out _ _ ⟨hc3,hs1'⟩ (fun hHeld=>?_)
              clear hK K
              refine norm_ (a':=?_) ?_ ?_
              rotate_left
              ·show Act.put _ (some 195) _=_
               simp only [Act.put,List.setIfInBounds_toArray,List.set_cons_zero,List.set_cons_succ,i64_w,i32_w]
               rfl
              refine pure_ (i:=12) (N:=some 196) (v:=?_) (a':=?_) #[true,true,true,true,true,true,true,true,true,true,true,true,true,false,false] rfl rfl (any_of HT_.out (by kernel_rfl)) (fun _ _ _ h=>h) (Or.inl ⟨by rfl,?_⟩) ?_ ?_
              rotate_left
              ·intro w'
               go_simp
               with_reducible rfl
              rotate_left
              ·simp only [Act.put,List.setIfInBounds_toArray,List.set_cons_zero,List.set_cons_succ,i64_w,i32_w]
               rfl
              refine pure_ (i:=13) (N:=some 197) (v:=?_) (a':=?_) #[true,true,true,true,true,true,true,true,true,true,true,true,true,true,false] rfl rfl (any_of HT_.out (by kernel_rfl)) (fun _ _ _ h=>h) (Or.inl ⟨by rfl,?_⟩) ?_ ?_
              rotate_left
              ·intro w'
               go_simp
               with_reducible rfl
              rotate_left
              ·simp only [Act.put,List.setIfInBounds_toArray,List.set_cons_zero,List.set_cons_succ,i64_w,i32_w]
               rfl
              refine last_ (i:=14) (N:=none) #[true,true,true,true,true,true,true,true,true,true,true,true,true,true,true] rfl rfl (one_of HT_.out (by kernel_rfl)) (by decide) (fun K hK=>?_)
              refine skip_ (w1:=?_) (by rfl) rfl ?_ ?_
              rotate_left
              ·go_simp
               rfl
              refine hK.out _ _ ?_
              clear hK K
              refine done_ (done_of HT_.out (by kernel_rfl)) ?_

              go_wp2
              go_roundg gk'
              case measure=>have:=HG.out;omega
              case rel =>
               have e2:=HCY.out.2.1
               have n2:=HN.out.2
               have h:=HW.out
               refine ⟨x',y'.drop 1,_,B1',d0,d1 - 1,nx,ny - 1,a,true,addIns s2 out',rfl,rfl,rfl,rfl,⟨HN.out.1,e2.symm⟩,⟨by have:=HQ.out;have:=HG.out;omega⟩,⟨?_⟩⟩
               refine ⟨h.cx,HCY.out.1,h.dx,by rw [e2];exact HCY.out.2.2,h.hlx,by have:=h.hly;omega,h.pos,fun _=>addIns_ne _ _ HON.out,HGO.out,HS5.out,by rw [addIns_len];have:=HOL.out;omega,?_,below_set HB5.out GB.out⟩
               intro e he
               rcases mem_addIns HON.out he with he|rfl
               ·have:=HOD.out e he;omega
               ·have:=HE2.out;exact ⟨this.1,this.2.1,by show ((edLast out').f2++[s2]).length+_≤_;rw [List.length_append,List.length_singleton,e2];omega⟩
          ·as_aux_lemma =>
           have f0:decide (0<nx)=true:=by simp;omega
           have g0:(0:Int)<(nx:Int):=by omega
           have p0:0<x'.length:=by have:=HN.out.1;omega
           obtain ⟨ad1,e1,hx1⟩:=at_head (Kd.C_below HW.out.cx HW.out.bel) p0
           cases e1
           obtain ⟨B0',sx,hCx,hlx,hdx⟩:=cutOne _ d0 nx x' HN.out.1 h1 (by have h2:=HN.out.1;have h3:=HW.out.dx;omega)
           have HCX:=Aside0.mk (And.intro (hCx w HW.out.cx) (And.intro hlx hdx))
           clear hCx hlx hdx
           have f1:decide (0<ny)=false:=by simp;omega
           have HK:=Aside0.mk (head_del_end (y:=y') p0 (by have:=HN.out.2;omega))
           have HLn:=Aside0.mk (show out.length≤2097152 by have:=HW.out.len;omega)
           clear hend
           go_upto_if 140 with (fail)
           go_quiet (fail)
           go_upto_if 140 with (fail)
           have HM:=Aside0.mk (DMid.mk (HW.out.drewN nq).own (HW.out.drewN nq).bel)
           go_cut [10,11] (fun v10 v11 wc=>v11=.bool true∧Aside0 (DMid w.heap.size w v10 (opened (a:Int) op out) wc))
           case first =>
            cases op
            ·go_wp2_with (first|((with_reducible refine gate_builtin (b:=.append) (xs:=#[.tmp 141,.tmp 144]) rfl ?_);at_builtin;refine Kd.S_append k52 (w0:=w) w.heap.size rfl (.tmp 141) (.tmp 144) 41 52 (.agg #[(.int .i64 0),(.int .i64 0),(.slice none 0 0)]) 40 rfl Try.underlying41 ginfoEd rfl (by decide) (by omega) _ out (⟨(a:Int),0,[]⟩:Ed) [.int .i64 (a:Int),.int .i64 0,.slice none 0 0] (fun _=>True) (fun _=>False) rfl rfl (k52_mkM _ _ _ (⟨(a:Int),0,[]⟩:Ed) (Kd.R_nil _ _ _ _ _)) (fun _ h=>h.elim) (fun _ _=>trivial) (Kd.S_mono HM.out.own (fun _ _=>⟨trivial,id⟩)) HM.out.bel HM.out.bel.size (by have:=HLn.out;omega) ?_;intro v2 w2 ho hb hg hat;have HM2:=Aside0.mk (DMid.mk ho hb);clear ho hb hg hat))
             go_meet
             exact ⟨rfl,HM2⟩
            ·go_wp2
             go_meet
             exact ⟨rfl,HM⟩
           case rest =>
            clear HM
            obtain ⟨rfl,HM⟩:=hcut
            have HON:=Aside0.mk (opened_ne (a:Int) op out HW.out.ne)
            have HOL:=Aside0.mk (show (opened (a:Int) op out).length+x'.length+y'.length≤x.length+y.length+1 by have:=opened_len (a:Int) op out;have:=HW.out.len;omega)
            have HOD:=Aside0.mk (opened_del2 (at_:=(a:Int)) (op:=op) HW.out.hlx HW.out.hly HW.out.del)
            have HGO:=Aside0.mk (show edits (a:Int) op out (steps x' y')=_ from HW.out.goes)
            rw [HK.out] at HGO
            simp only [edits] at HGO
            clear HK HLn
            generalize opened (a:Int) op out=out' at *
            have hp:0<out'.length:=List.length_pos_iff.2 HON.out
            have hp2:out'.length≤2097153:=by have:=HOL.out;omega
            obtain ⟨g,cap,ev,hgb,hgl,HGc⟩:=Kd.S_form HM.out.own hp
            subst ev
            obtain ⟨jl,hjl⟩:∃ j:Int,j=(out'.length:Int) - 1:=⟨_,rfl⟩
            have kj:IntKind.i64.wrap ((out'.length:Int) - 1)=jl:=by rw [hjl];exact IntWalk.i64_in _ (by omega)
            have j0:0≤jl:=by omega
            have j1:jl<(out'.length:Int):=by omega
            have HJ:=Aside0.mk (show jl.toNat=out'.length - 1 by omega)
            have GB:=Aside0.mk hgb
            clear hjl hgl hgb HGc
            have k3:((ny:Int) == 0)=true:=beq_iff_eq.2 (by omega)
            have k4:(ny == 0)=true:=beq_iff_eq.2 (by omega)
            obtain ⟨hd1,hd2,hd3,hd4⟩:=own_del HM.out.own HON.out j0 HJ.out
            have HD3:=Aside0.mk hd3
            have HEL:=HOD.out _ (edLast_mem HON.out)
            have hb1:0≤(edLast out').f1:=HEL.1
            have hb2:(edLast out').f1≤1048576:=by have:=HEL.2.1;omega
            have HE2:=Aside0.mk HEL
            clear hd3 hd4 HEL
            go_wp2
            go_roundg gk'
            case measure=>have:=HG.out;omega
            case rel =>
             have e1:=HCX.out.2.1
             have n1:=HN.out.1
             have h:=HW.out
             refine ⟨x'.drop 1,y',B0',_,d0 - 1,d1,nx - 1,ny,a+1,true,addDel out',rfl,rfl,rfl,by go_num,⟨e1.symm,HN.out.2⟩,⟨by have:=HQ.out;have:=HG.out;omega⟩,⟨?_⟩⟩
             refine ⟨HCX.out.1,h.cy,by rw [e1];exact HCX.out.2.2,h.dy,by have:=h.hlx;omega,h.hly,by have:=h.pos;omega,fun _=>addDel_ne _ HON.out,by simpa using HGO.out,?_,by rw [addDel_len];have:=HOL.out;omega,?_,below_set HM.out.bel GB.out⟩
             ·have h2:=HD3.out
              have h3:=addDel_len out'
              exact h2
             ·intro e he
              rcases mem_addDel HON.out he with he|rfl
              ·have:=HOD.out e he;omega
              ·have:=HE2.out;exact ⟨by show 0≤_+_;omega,by show _+_+_≤_;omega,this.2.2⟩
         ·as_aux_lemma =>
          have h2:0<ny:=by omega
          have f0:decide (0<nx)=false:=by simp;omega
          have f1:decide (0<ny)=true:=by simp;omega
          have g1:(0:Int)<(ny:Int):=by omega
          have q0:0<y'.length:=by have:=HN.out.2;omega
          obtain ⟨ad2,e2,hx2⟩:=at_head (Kd.C_below HW.out.cy HW.out.bel) q0
          cases e2
          obtain ⟨B1',sy,hCy,hly,hdy⟩:=cutOne _ d1 ny y' HN.out.2 h2 (by have h2:=HN.out.2;have h3:=HW.out.dy;omega)
          have HCY:=Aside0.mk (And.intro (hCy w HW.out.cy) (And.intro hly hdy))
          clear hCy hly hdy
          have HK:=Aside0.mk (head_ins_end (x:=x') (by have:=HN.out.1;omega) q0)
          have HLn:=Aside0.mk (show out.length≤2097152 by have:=HW.out.len;omega)
          have HS2:=Aside0.mk (at_some HW.out.cy q0)
          generalize y'[0]=s2 at *
          clear hend
          go_upto_if 140 with (fail)
          go_quiet (fail)
          go_upto_if 140 with (fail)
          have HM:=Aside0.mk (DMid.mk (HW.out.drewN nq).own (HW.out.drewN nq).bel)
          go_cut [10,11] (fun v10 v11 wc=>v11=.bool true∧Aside0 (DMid w.heap.size w v10 (opened (a:Int) op out) wc))
          case first =>
           cases op
           ·go_wp2_with (first|((with_reducible refine gate_builtin (b:=.append) (xs:=#[.tmp 141,.tmp 144]) rfl ?_);at_builtin;refine Kd.S_append k52 (w0:=w) w.heap.size rfl (.tmp 141) (.tmp 144) 41 52 (.agg #[(.int .i64 0),(.int .i64 0),(.slice none 0 0)]) 40 rfl Try.underlying41 ginfoEd rfl (by decide) (by omega) _ out (⟨(a:Int),0,[]⟩:Ed) [.int .i64 (a:Int),.int .i64 0,.slice none 0 0] (fun _=>True) (fun _=>False) rfl rfl (k52_mkM _ _ _ (⟨(a:Int),0,[]⟩:Ed) (Kd.R_nil _ _ _ _ _)) (fun _ h=>h.elim) (fun _ _=>trivial) (Kd.S_mono HM.out.own (fun _ _=>⟨trivial,id⟩)) HM.out.bel HM.out.bel.size (by have:=HLn.out;omega) ?_;intro v2 w2 ho hb hg hat;have HM2:=Aside0.mk (DMid.mk ho hb);clear ho hb hg hat))
            go_meet
            exact ⟨rfl,HM2⟩
           ·go_wp2
            go_meet
            exact ⟨rfl,HM⟩
          case rest =>
           clear HM
           obtain ⟨rfl,HM⟩:=hcut
           have HON:=Aside0.mk (opened_ne (a:Int) op out HW.out.ne)
           have HOL:=Aside0.mk (show (opened (a:Int) op out).length+x'.length+y'.length≤x.length+y.length+1 by have:=opened_len (a:Int) op out;have:=HW.out.len;omega)
           have HOD:=Aside0.mk (opened_del2 (at_:=(a:Int)) (op:=op) HW.out.hlx HW.out.hly HW.out.del)
           have HGO:=Aside0.mk (show edits (a:Int) op out (steps x' y')=_ from HW.out.goes)
           rw [HK.out] at HGO
           simp only [edits] at HGO
           clear HK HLn
           generalize opened (a:Int) op out=out' at *
           have hp:0<out'.length:=List.length_pos_iff.2 HON.out
           have hp2:out'.length≤2097153:=by have:=HOL.out;omega
           obtain ⟨g,cap,ev,hgb,hgl,HGc⟩:=Kd.S_form HM.out.own hp
           subst ev
           obtain ⟨jl,hjl⟩:∃ j:Int,j=(out'.length:Int) - 1:=⟨_,rfl⟩
           have kj:IntKind.i64.wrap ((out'.length:Int) - 1)=jl:=by rw [hjl];exact IntWalk.i64_in _ (by omega)
           have j0:0≤jl:=by omega
           have j1:jl<(out'.length:Int):=by omega
           have HJ:=Aside0.mk (show jl.toNat=out'.length - 1 by omega)
           have GB:=Aside0.mk hgb
           clear hjl hgl hgb HGc
           have k3:((ny:Int) == 0)=false:=beq_eq_false_iff_ne.2 (by omega)
           have k4:(ny == 0)=false:=beq_eq_false_iff_ne.2 (by omega)
           have e2:=HCY.out.2.1
           have HM3:=Aside0.mk HM.out.drew
           obtain ⟨vi,Ai,ci,oki,evi,hs0,hri,hfr,hvg,hins⟩:=own_ins s2 HM3.out.own HON.out j0 HJ.out
           subst evi
           have hs1:=pw_cell_below HM3.out.bel HS2.out
           have HRI:=Aside0.mk hri
           have HFR:=Aside0.mk hfr
           have HIN:=Aside0.mk hins
           have HE2:=Aside0.mk (HOD.out _ (edLast_mem HON.out))
           have hel:(edLast out').f2.length≤1048576:=by have:=HE2.out;omega
           clear hri hfr hins hvg hx2
           go_wp2
           refine start_ (n:=15) (S:=fun w'=>w'.cell? ⟨g,jl.toNat * 3+2,none⟩=some (.slice Ai (edLast out').f2.length ci)∧w'.cell? ad2=some (.string s2)) (ds:=[14]) #[false,false,false,false,false,false,false,false,false,false,false,false,false,false,false] (by kernel_rfl) rfl rfl ⟨hs0,hs1⟩ (fun hHeld=>?_)
           refine with_tabW gref_Diff.tab35 gref_Diff.bits35 (fun HT_ HW_=>?_)
           generalize wc.drew=w3 at HM3 HRI HFR HIN hs0 hs1 hHeld ⊢
           refine pure_ (i:=0) (N:=some 184) (v:=?_) (a':=?_) #[true,false,false,false,false,false,false,false,false,false,false,false,false,false,false] rfl rfl (any_of HT_.out (by kernel_rfl)) (fun _ _ _ h=>h) (Or.inl ⟨by rfl,?_⟩) ?_ ?_
           rotate_left
           ·intro w'
            go_simp
            with_reducible rfl
           rotate_left
           ·simp only [Act.put,List.setIfInBounds_toArray,List.set_cons_zero,List.set_cons_succ,i64_w,i32_w]
            rfl
           refine pure_ (i:=1) (N:=some 185) (v:=?_) (a':=?_) #[true,true,false,false,false,false,false,false,false,false,false,false,false,false,false] rfl rfl (any_of HT_.out (by kernel_rfl)) (fun _ _ _ h=>h) (Or.inl ⟨by rfl,?_⟩) ?_ ?_
           rotate_left
           ·intro w'
            go_simp
            with_reducible rfl
           rotate_left
           ·simp only [Act.put,List.setIfInBounds_toArray,List.set_cons_zero,List.set_cons_succ,i64_w,i32_w]
            rfl
           refine pure_ (i:=2) (N:=some 186) (v:=?_) (a':=?_) #[true,true,true,false,false,false,false,false,false,false,false,false,false,false,false] rfl rfl (any_of HT_.out (by kernel_rfl)) (fun _ _ _ h=>h) (Or.inl ⟨by rfl,?_⟩) ?_ ?_
           rotate_left
           ·intro w'
            go_simp
            with_reducible rfl
           rotate_left
           ·simp only [Act.put,List.setIfInBounds_toArray,List.set_cons_zero,List.set_cons_succ,i64_w,i32_w]
            rfl
           refine pure_ (i:=3) (N:=some 187) (v:=?_) (a':=?_) #[true,true,true,true,false,false,false,false,false,false,false,false,false,false,false] rfl rfl (any_of HT_.out (by kernel_rfl)) (fun _ _ _ h=>h) (Or.inl ⟨by rfl,?_⟩) ?_ ?_
           rotate_left
           ·intro w'
            go_simp
            with_reducible rfl
           rotate_left
           ·simp only [Act.put,List.setIfInBounds_toArray,List.set_cons_zero,List.set_cons_succ,i64_w,i32_w]
            rfl
           refine pure_ (i:=4) (N:=some 188) (v:=?_) (a':=?_) #[true,true,true,true,true,false,false,false,false,false,false,false,false,false,false] rfl rfl (any_of HT_.out (by kernel_rfl)) (fun _ _ _ h=>h) (Or.inl ⟨by rfl,?_⟩) ?_ ?_
           rotate_left
           ·intro w'
            go_simp
            with_reducible rfl
           rotate_left
           ·simp only [Act.put,List.setIfInBounds_toArray,List.set_cons_zero,List.set_cons_succ,i64_w,i32_w]
            rfl
           refine pure_ (i:=5) (N:=some 189) (v:=?_) (a':=?_) #[true,true,true,true,true,true,false,false,false,false,false,false,false,false,false] rfl rfl (any_of HT_.out (by kernel_rfl)) (fun _ _ _ h=>h) (Or.inl ⟨by rfl,?_⟩) ?_ ?_
           rotate_left
           ·intro w'
            go_simp
            with_reducible rfl
           rotate_left
           ·simp only [Act.put,List.setIfInBounds_toArray,List.set_cons_zero,List.set_cons_succ,i64_w,i32_w]
            rfl
           refine pure_ (i:=7) (N:=some 191) (v:=?_) (a':=?_) #[true,true,true,true,true,true,false,true,false,false,false,false,false,false,false] rfl rfl (any_of HT_.out (by kernel_rfl)) (fun _ _ _ h=>h) (Or.inl ⟨by rfl,?_⟩) ?_ ?_
           rotate_left
           ·intro w'
            go_simp
            with_reducible rfl
           rotate_left
           ·simp only [Act.put,List.setIfInBounds_toArray,List.set_cons_zero,List.set_cons_succ,i64_w,i32_w]
            rfl
           refine pure_ (i:=8) (N:=some 192) (v:=?_) (a':=?_) #[true,true,true,true,true,true,false,true,true,false,false,false,false,false,false] rfl rfl (any_of HT_.out (by kernel_rfl)) (fun _ _ _ h=>h) (Or.inl ⟨by rfl,?_⟩) ?_ ?_
           rotate_left
           ·intro w'
            go_simp
            with_reducible rfl
           rotate_left
           ·simp only [Act.put,List.setIfInBounds_toArray,List.set_cons_zero,List.set_cons_succ,i64_w,i32_w]
            rfl
           refine take_ (i:=6) (N:=some 190) (v:=?_) (a':=?_) #[true,true,true,true,true,true,true,true,true,false,false,false,false,false,false] rfl rfl (take_ofW HT_.out HW_.out (by kernel_rfl)) (fun _ _ _ h=>h) (Or.inl ⟨by rfl,?_⟩) hHeld ?_ ?_
           rotate_left
           ·rintro w' ⟨s0,s1⟩
            go_simp
            with_reducible rfl
           rotate_left
           ·simp only [Act.put,List.setIfInBounds_toArray,List.set_cons_zero,List.set_cons_succ,i64_w,i32_w]
            rfl
           refine take_ (i:=9) (N:=some 193) (v:=?_) (a':=?_) #[true,true,true,true,true,true,true,true,true,true,false,false,false,false,false] rfl rfl (take_ofW HT_.out HW_.out (by kernel_rfl)) (fun _ _ _ h=>h) (Or.inl ⟨by rfl,?_⟩) hHeld ?_ ?_
           rotate_left
           ·rintro w' ⟨s0,s1⟩
            go_simp
            with_reducible rfl
           rotate_left
           ·simp only [Act.put,List.setIfInBounds_toArray,List.set_cons_zero,List.set_cons_succ,i64_w,i32_w]
            rfl
           refine one_ (i:=10) (N:=some 194) #[true,true,true,true,true,true,true,true,true,true,true,false,false,false,false] rfl rfl (one_of HT_.out (by kernel_rfl)) (by decide) (fun K hK=>?_)
           refine value_ (w1:=?_) (v:=?_) (by rfl) rfl ?_ ?_
           rotate_left 2
           ·go_simp
            constructor
            ·rfl
            ·rfl
           refine hK.out _ _ ⟨(pw_cell_below (below_alloc (Below.refl _ _) _) hs0),(pw_cell_below (below_alloc (Below.refl _ _) _) hs1)⟩ (fun hHeld=>?_)
           clear hK K
           refine norm_ (a':=?_) ?_ ?_
           rotate_left
           ·show Act.put _ (some 194) _=_
            simp only [Act.put,List.setIfInBounds_toArray,List.set_cons_zero,List.set_cons_succ,i64_w,i32_w]
            rfl
           refine one_ (i:=11) (N:=some 195) #[true,true,true,true,true,true,true,true,true,true,true,true,false,false,false] rfl rfl (one_of HT_.out (by kernel_rfl)) (by decide) (fun K hK=>?_)
           refine Kd.R_append_step Kd.string (w0:=w) w.heap.size (by rfl) (.tmp 190) (.tmp 194) 22 9 (.string ⟨#[]⟩) 16 rfl Try.underlying22 ginfoStrW rfl (by decide) (by omega) (.slice Ai (edLast out').f2.length ci) (edLast out').f2 s2 [.string s2] oki (fun _=>False) rfl rfl rfl (fun _ h=>h.elim) HFR.out HRI.out HM3.out.bel HM3.out.bel.size (by omega) ?_
           intro v3 w5 ho hb hg hat
           obtain ⟨A3,c3,e3⟩:=Kd.R_slice ho
           rw [List.length_append,List.length_singleton] at e3
           subst e3
           obtain ⟨hc3,hf3,hS3,hg3,cg,hcg⟩:=HIN.out w3 w5 _ (Below.refl _ _) hg ho
           have HB5:=Aside0.mk hb
           have HS5:=Aside0.mk hS3
           have hs1':=pw_cell_below hb HS2.out
           clear ho hb hg hat hS3 hg3 hcg hs0 hs1
           refine hK.out _ _ ⟨hc3,hs1'⟩ (fun hHeld=>?_)
           clear hK K
           refine norm_ (a':=?_) ?_ ?_
           rotate_left
           ·show Act.put _ (some 195) _=_
            simp only [Act.put,List.setIfInBounds_toArray,List.set_cons_zero,List.set_cons_succ,i64_w,i32_w]
            rfl
           refine pure_ (i:=12) (N:=some 196) (v:=?_) (a':=?_) #[true,true,true,true,true,true,true,true,true,true,true,true,true,false,false] rfl rfl (any_of HT_.out (by kernel_rfl)) (fun _ _ _ h=>h) (Or.inl ⟨by rfl,?_⟩) ?_ ?_
           rotate_left
           ·intro w'
            go_simp
            with_reducible rfl
           rotate_left
           ·simp only [Act.put,List.setIfInBounds_toArray,List.set_cons_zero,List.set_cons_succ,i64_w,i32_w]
            rfl
           refine pure_ (i:=13) (N:=some 197) (v:=?_) (a':=?_) #[true,true,true,true,true,true,true,true,true,true,true,true,true,true,false] rfl rfl (any_of HT_.out (by kernel_rfl)) (fun _ _ _ h=>h) (Or.inl ⟨by rfl,?_⟩) ?_ ?_
           rotate_left
           ·intro w'
            go_simp
            with_reducible rfl
           rotate_left
           ·simp only [Act.put,List.setIfInBounds_toArray,List.set_cons_zero,List.set_cons_succ,i64_w,i32_w]
            rfl
           refine last_ (i:=14) (N:=none) #[true,true,true,true,true,true,true,true,true,true,true,true,true,true,true] rfl rfl (one_of HT_.out (by kernel_rfl)) (by decide) (fun K hK=>?_)
           refine skip_ (w1:=?_) (by rfl) rfl ?_ ?_
           rotate_left
           ·go_simp
            rfl
           refine hK.out _ _ ?_
           clear hK K
           refine done_ (done_of HT_.out (by kernel_rfl)) ?_

           go_wp2
           go_roundg gk'
           case measure=>have:=HG.out;omega
           case rel =>
            have e2:=HCY.out.2.1
            have n2:=HN.out.2
            have h:=HW.out
            refine ⟨x',y'.drop 1,_,B1',d0,d1 - 1,nx,ny - 1,a,true,addIns s2 out',rfl,rfl,rfl,rfl,⟨HN.out.1,e2.symm⟩,⟨by have:=HQ.out;have:=HG.out;omega⟩,⟨?_⟩⟩
            refine ⟨h.cx,HCY.out.1,h.dx,by rw [e2];exact HCY.out.2.2,h.hlx,by have:=h.hly;omega,h.pos,fun _=>addIns_ne _ _ HON.out,HGO.out,HS5.out,by rw [addIns_len];have:=HOL.out;omega,?_,below_set HB5.out GB.out⟩
            intro e he
            rcases mem_addIns HON.out he with he|rfl
            ·have:=HOD.out e he;omega
            ·have:=HE2.out;exact ⟨this.1,this.2.1,by show ((edLast out').f2++[s2]).length+_≤_;rw [List.length_append,List.length_singleton,e2];omega⟩
end Go.Proofs.Ytnmphfelebkaiaa.Pr
-- shrunk
