/-
Several plain texts in one.
-/
import Derived.IntWalk
import Derived.Lib.SlicesS
import Derived.Test.YtnmphfelebkaiaaK0
import Derived.Test.YtnmphfelebkaiaaGTable
import Derived.RegionTactic
import Derived.BigRegion
import Derived.Deep.DeepMust
set_option linter.unusedVariables false
set_option linter.unusedSimpArgs false
/-
diff.walk's contract: between two lists of at most 65536 lines it answers the edits of the way.
-/
namespace Go.Proofs.Ytnmphfelebkaiaa.Pr
open Go.RowKit Go.Proofs.YtnmphfelebkaiaaW.PrintWords Go.Proofs.YtnmphfelebkaiaaW.PrintLast Go.Proofs.YtnmphfelebkaiaaW.PrintMore
theorem ginfoEd:(Try.prog.info? 52).map (fun i=>(i.zero,i.size,i.bytes))=some (some (.agg #[(.int .i64 0),(.int .i64 0),(.slice none 0 0)]),3,40):=by kernel_rfl
theorem ginfoStrW:(Try.prog.info? 9).map (fun i=>(i.zero,i.size,i.bytes))=some (some (.string ⟨#[]⟩),1,16):=by kernel_rfl
def diff_walk.T14:Bool × List (List Nat × List Nat):=(true,[([],[]),([],[]),([1],[1]),([2],[2]),([3],[3]),([],[]),([],[]),([5,6],[5,6]),([7],[7]),([8],[8]),([4,9],[4,9]),([0,0,1,2,3,4,5,6,7,8,9,10],[0]),([11,0,1,2,3,4,5,6,7,8,9,10],[11]),([12,10,10,0,1,2,3,4,5,6,7,8,9,10],[10,12])])
def diff_walk.B14:List Nat:=[0,0,2,6,14,0,0,96,224,480,1022,2047,4095,8191]
theorem diff_walk.tab14:rtab .any (opsOf Try.f32 14)=diff_walk.T14:=by kernel_rfl
theorem diff_walk.bits14:waitsOk diff_walk.T14.2 diff_walk.B14=true:=by kernel_rfl
structure IsTab (x y:List ByteArray) (T:List (List Int)):Prop where
 len:T.length=x.length+1
 row:∀ i,i≤x.length→(T.getD i []).length=y.length+1
 at_:∀ i j,i≤x.length→j≤y.length→(T.getD i []).getD j 0=(lcsLen (x.drop i) (y.drop j):Int)
structure WRel (base:Nat) (w:World) (at_:Int) (x y:List ByteArray) (T:List (List Int)) (AT:Addr) (cT:Nat) (fin:List Ed) (v8:Value) (i k:Nat) (op:Bool) (out:List Ed) (wr:World):Prop where
 hi:i≤x.length
 hk:k≤y.length
 ne:op=true→out≠[]
 goes:edits (at_+i) op out (steps (x.drop i) (y.drop k))=fin
 own:Kd.S k52 52 wr base (fun _=>True) v8 out
 tab:Kd.S (Kd.slice 3 (Kd.int .i64)) 49 wr base (fun _=>True) (.slice (some AT) T.length cT) T
 len:out.length≤i+k
 del:∀ e ∈ out,0≤e.f1∧e.f1≤i∧e.f2.length≤k
 bel:Below base w wr
theorem WRel.drewN {base:Nat} {w:World} {at_:Int} {x y:List ByteArray} {T:List (List Int)} {AT:Addr} {cT:Nat} {fin:List Ed} {v8:Value} {i k:Nat} {op:Bool} {out:List Ed} {wr:World} (h:WRel base w at_ x y T AT cT fin v8 i k op out wr) (n:Nat):WRel base w at_ x y T AT cT fin v8 i k op out (wr.drewN n) :=
 ⟨h.hi,h.hk,h.ne,h.goes,Kd.S_drewN h.own n,Kd.S_drewN h.tab n,h.len,h.del,pw_below_drewN h.bel n⟩
structure WMid (base:Nat) (w:World) (T:List (List Int)) (AT:Addr) (cT:Nat) (v8:Value) (out:List Ed) (wr:World):Prop where
 own:Kd.S k52 52 wr base (fun _=>True) v8 out
 tab:Kd.S (Kd.slice 3 (Kd.int .i64)) 49 wr base (fun _=>True) (.slice (some AT) T.length cT) T
 bel:Below base w wr
theorem WMid.drewN {base:Nat} {w:World} {T:List (List Int)} {AT:Addr} {cT:Nat} {v8:Value} {out:List Ed} {wr:World} (h:WMid base w T AT cT v8 out wr) (n:Nat):WMid base w T AT cT v8 out (wr.drewN n) :=
 ⟨Kd.S_drewN h.own n,Kd.S_drewN h.tab n,pw_below_drewN h.bel n⟩
theorem WMid.drew {base:Nat} {w:World} {T:List (List Int)} {AT:Addr} {cT:Nat} {v8:Value} {out:List Ed} {wr:World} (h:WMid base w T AT cT v8 out wr):WMid base w T AT cT v8 out wr.drew :=
 ⟨Kd.S_drew h.own,Kd.S_drew h.tab,below_drew h.bel⟩
theorem at_str {w:World} {A:Option Addr} {xs:List ByteArray} (h:Kd.C Kd.string w A xs.length xs) (i:Nat) (hi:i<xs.length):∃ ad,A=some ad∧w.cell? (ad.add i)=some (.string xs[i]):=by
 obtain ⟨ad,e,hx⟩:=Kd.at_string h (i:Int) (by omega) (by omega)
 refine ⟨ad,e,?_⟩
 simpa [rdOf,List.getD_eq_getElem?_getD,List.getElem?_eq_getElem hi] using hx
theorem steps_keep {x y:List ByteArray} {i k:Nat} (h1:i<x.length) (h2:k<y.length) (he:x[i]=y[k]):steps (x.drop i) (y.drop k)=.keep :: steps (x.drop (i+1)) (y.drop (k+1)):=by
 rw [List.drop_eq_getElem_cons h1,List.drop_eq_getElem_cons h2,steps,if_pos he]
theorem steps_del_end {x y:List ByteArray} {i k:Nat} (h1:i<x.length) (h2:¬ k<y.length):steps (x.drop i) (y.drop k)=.del :: steps (x.drop (i+1)) (y.drop k):=by
 rw [List.drop_eq_getElem_cons h1,List.drop_of_length_le (by omega:y.length≤k),steps]
theorem steps_ins_end {x y:List ByteArray} {i k:Nat} (h1:¬ i<x.length) (h2:k<y.length):steps (x.drop i) (y.drop k)=.ins y[k] :: steps (x.drop i) (y.drop (k+1)):=by
 rw [List.drop_eq_getElem_cons h2,List.drop_of_length_le (by omega:x.length≤i),steps]
theorem steps_del {x y:List ByteArray} {i k:Nat} (h1:i<x.length) (h2:k<y.length) (he:x[i]≠y[k]) (hl:lcsLen (x.drop i) (y.drop (k+1))≤lcsLen (x.drop (i+1)) (y.drop k)):steps (x.drop i) (y.drop k)=.del :: steps (x.drop (i+1)) (y.drop k):=by
 rw [List.drop_eq_getElem_cons h1,List.drop_eq_getElem_cons h2] at hl ⊢
 rw [steps,if_neg he,if_pos hl]
theorem steps_ins {x y:List ByteArray} {i k:Nat} (h1:i<x.length) (h2:k<y.length) (he:x[i]≠y[k]) (hl:¬ lcsLen (x.drop i) (y.drop (k+1))≤lcsLen (x.drop (i+1)) (y.drop k)):steps (x.drop i) (y.drop k)=.ins y[k] :: steps (x.drop i) (y.drop (k+1)):=by
 rw [List.drop_eq_getElem_cons h1,List.drop_eq_getElem_cons h2] at hl ⊢
 rw [steps,if_neg he,if_neg hl]
theorem add_succ_at (a:Addr) (k:Nat):a.add (k+1)=⟨a.block,a.off+(k+1),none⟩:=by unfold Addr.add;rw [if_neg (by omega)]
theorem tab_at {W:World} {base gT cT:Nat} {x y:List ByteArray} {T:List (List Int)} (h:Kd.S (Kd.slice 3 (Kd.int .i64)) 49 W base (fun _=>True) (.slice (some ⟨gT,0,none⟩) T.length cT) T) (hI:IsTab x y T) (i j:Nat) (hi:i≤x.length) (hj:j≤y.length) :
  ∃ (Ar:Addr) (cr nr:Nat),nr=y.length+1∧W.cell? ⟨gT,i,none⟩=some (.slice (some Ar) nr cr)∧W.cell? (Ar.add j)=some (.int .i64 (lcsLen (x.drop i) (y.drop j))):=by
 have hC:=(Kd.S_reads' h).2.2
 obtain ⟨ad,c,e,_,hK,hc0⟩:=Kd.C_get hC ([]:List Int) (i:Int) (by omega) (by rw [hI.len];omega)
 cases e
 have hc:∀ q u,c[q]?=some u→W.cell? ((⟨gT,0,none⟩:Addr).add ((i:Int).toNat * 1+q))=some u:=hc0
 obtain ⟨A0,c0,rfl,l0,g0⟩:=hK
 have h0:=hc 0 _ rfl
 rw [Int.toNat_natCast,Nat.mul_one,Nat.add_zero,add_plain] at h0
 have hl:=hI.row i hi
 rw [Int.toNat_natCast] at g0
 obtain ⟨ad2,e2,hx2⟩:=Kd.at_int g0 (j:Int) (by omega) (by rw [hl];omega)
 subst e2
 rw [hl] at h0
 refine ⟨ad2,c0,_,rfl,h0,?_⟩
 rw [Int.toNat_natCast] at hx2
 rw [hx2,rd,Int.toNat_natCast,hI.at_ i j hi hj]
theorem edLast_mem {out:List Ed} (h:out≠[]):edLast out ∈ out:=by
 have hl:0<out.length:=List.length_pos_iff.2 h
 unfold edLast
 rw [List.getD_eq_getElem?_getD,List.getElem?_eq_getElem (by omega)]
 exact List.getElem_mem _
theorem opened_del {at_:Int} {op:Bool} {out:List Ed} {i k:Nat} (h:∀ e ∈ out,0≤e.f1∧e.f1≤i∧e.f2.length≤k):∀ e ∈ opened at_ op out,0≤e.f1∧e.f1≤i∧e.f2.length≤k:=by
 intro e he
 unfold opened at he
 split at he
 ·exact h e he
 rcases List.mem_append.1 he with he|he
 ·exact h e he
 simp at he;subst he;simp
theorem mem_addDel {out:List Ed} (hne:out≠[]) {e:Ed} (he:e ∈ addDel out):e ∈ out∨e=⟨(edLast out).f0,(edLast out).f1+1,(edLast out).f2⟩:=by
 unfold addDel at he;exact (List.mem_or_eq_of_mem_set he)
theorem mem_addIns {s:ByteArray} {out:List Ed} (hne:out≠[]) {e:Ed} (he:e ∈ addIns s out):e ∈ out∨e=⟨(edLast out).f0,(edLast out).f1,(edLast out).f2++[s]⟩:=by
 unfold addIns at he;exact (List.mem_or_eq_of_mem_set he)
theorem opened_len (at_:Int) (op:Bool) (out:List Ed):(opened at_ op out).length≤out.length+1:=by
 unfold opened;split<;>simp
theorem addDel_len (out:List Ed):(addDel out).length=out.length:=by simp [addDel]
theorem addIns_len (s:ByteArray) (out:List Ed):(addIns s out).length=out.length:=by simp [addIns]
set_option maxRecDepth 100000 in
set_option maxHeartbeats 4000000 in
theorem diff_walk.calls (kt:Nat) (at_:Int) (A1:Option Addr) (c1:Nat) (x:List ByteArray) (A2:Option Addr) (c2:Nat) (y:List ByteArray) (T:List (List Int)) (w:World)
  (hr1:Kd.C Kd.string w A1 x.length x) (hc1:x.length≤c1) (hr2:Kd.C Kd.string w A2 y.length y) (hc2:y.length≤c2)
  (hat:0≤at_) (hat2:at_≤4398046511104) (hx:x.length≤65536) (hy:y.length≤65536) (hT:diff_table.f kt x y=some T) (hI:IsTab x y T) :
  Calls Try.prog 32 #[.int .i64 at_,.slice A1 x.length c1,.slice A2 y.length c2] w fun e w'=>∃ v0_:Value,e=.returned (v0_)∧Kd.S k52 52 w' w.heap.size (fun _=>True) v0_ (edits at_ false [] (steps x y))∧Below w.heap.size w w':=by
 have HR1:=Aside0.mk hr1
 have HC1:=Aside0.mk hc1
 have HR2:=Aside0.mk hr2
 have HC2:=Aside0.mk hc2
 have HT:=Aside0.mk hT
 have HI:=Aside0.mk hI
 clear hr1 hc1 hr2 hc2 hT hI
 go_enter Try.func32,Try.ntmps32
 go_wp2_with (go_at_call 37;(with_reducible refine (diff_table.calls kt _ _ x _ _ y T _ HR1.out HC1.out HR2.out HC2.out HT.out).mono ?_);rintro e w1 ⟨v1,rfl,ho,hb⟩;obtain ⟨gT,cT,eT,_⟩:=Kd.S_form ho (by have:=HI.out.len;omega);subst eT;have HO:=Aside0.mk ho;have HB:=Aside0.mk hb;clear ho hb)
 go_loopg [8,9,10,11] (x.length+y.length) (fun kq v8 v9 v10 v11 wr=>∃ (i k:Nat) (op:Bool) (out:List Ed),v9=.bool op∧v10=.int .i64 i∧v11=.int .i64 k∧Aside0 (x.length+y.length≤kq+i+k)∧Aside0 (WRel w.heap.size w at_ x y T ⟨gT,0,none⟩ cT (edits at_ false [] (steps x y)) v8 i k op out wr))
 case atStart=>exact ⟨0,0,false,[],rfl,rfl,rfl,⟨by omega⟩,⟨⟨Nat.zero_le _,Nat.zero_le _,(by simp),(by simp),Kd.S_nil _ _ _ _ _,HO.out,(by simp),(by simp),HB.out⟩⟩⟩
 case round =>
  clear HO HB HT
  obtain ⟨i,k,op,out,rfl,rfl,rfl,HQ,HW⟩:=hrel
  have hi:=HW.out.hi
  have hk:=HW.out.hk
  by_cases hend:i=x.length∧k=y.length
  ·obtain ⟨hi2,hk2⟩:=hend
   have f3:decide (i<x.length)=false:=by simp;omega
   have f4:decide (k<y.length)=false:=by simp;omega
   have HF:=Aside0.mk (show out=edits at_ false [] (steps x y) by
    have h:=HW.out.goes
    rw [hi2,hk2,List.drop_length,List.drop_length] at h
    simpa [steps,edits] using h)
   clear hi2 hk2
   go_wp2
   go_ret
   exact ⟨_,rfl,by rw [← HF.out];exact HW.out.own,HW.out.bel⟩
  ·obtain ⟨gk',HG⟩:∃ m,Aside0 (gk=m+1):=⟨gk - 1,⟨by have:=HQ.out;omega⟩⟩
   by_cases heq:∃ (h1:i<x.length) (h2:k<y.length),x[i]=y[k]
   ·obtain ⟨h1,h2,he⟩:=heq
    obtain ⟨ad1,e1,hx1⟩:=at_str (Kd.C_below HR1.out HW.out.bel) i h1
    obtain ⟨ad2,e2,hx2⟩:=at_str (Kd.C_below HR2.out HW.out.bel) k h2
    cases e1
    cases e2
    have f3:decide (i<x.length)=true:=by simp;omega
    have f4:decide (k<y.length)=true:=by simp;omega
    have g1:(i:Int)<(x.length:Int):=by omega
    have g2:(k:Int)<(y.length:Int):=by omega
    have f5:((x[i]).toList == (y[k]).toList)=true:=(Lib.bytes_beq_iff _ _).2 he
    have HK:=Aside0.mk (steps_keep h1 h2 he)
    generalize x[i]=s1 at *
    generalize y[k]=s2 at *
    clear hend he
    go_wp2
    go_quiet (fail)
    go_wp2
    go_roundg gk'
    case measure=>have:=HG.out;omega
    case rel =>
     refine ⟨i+1,k+1,false,out,rfl,by go_num,by go_num,⟨by have:=HQ.out;have:=HG.out;omega⟩,⟨?_⟩⟩
     have h:=HW.out.drewN nq
     exact ⟨by omega,by omega,by simp,by have h3:=HW.out.goes;rw [HK.out] at h3;simpa [edits,Int.add_assoc] using h3,h.own,h.tab,by have:=h.len;omega,fun e he=>by have:=h.del e he;omega,h.bel⟩
   ·by_cases h1:i<x.length
    ·by_cases h2:k<y.length
     ·have he:x[i]≠y[k]:=fun h=>heq ⟨h1,h2,h⟩
      clear heq hend
      by_cases hl:lcsLen (x.drop i) (y.drop (k+1))≤lcsLen (x.drop (i+1)) (y.drop k)
      ·skip
       -- del
       obtain ⟨ad1,e1,hx1⟩:=at_str (Kd.C_below HR1.out HW.out.bel) i h1
       obtain ⟨ad2,e2,hx2⟩:=at_str (Kd.C_below HR2.out HW.out.bel) k h2
       cases e1
       cases e2
       have f3:decide (i<x.length)=true:=by simp;omega
       have f4:decide (k<y.length)=true:=by simp;omega
       have g1:(i:Int)<(x.length:Int):=by omega
       have g2:(k:Int)<(y.length:Int):=by omega
       have f5:((x[i]).toList == (y[k]).toList)=false:=(Lib.bytes_beq_false_iff _ _).2 he
       have HK:=Aside0.mk (steps_del h1 h2 he hl)
       have HLn:=Aside0.mk (show out.length≤131072 by have:=HW.out.len;omega)
       clear he
       go_upto_if 52 with (fail)
       go_quiet (fail)
       go_upto_if 52 with (fail)
       have HM:=Aside0.mk (WMid.mk (HW.out.drewN nq).own (HW.out.drewN nq).tab (HW.out.drewN nq).bel)
       go_cut [8,9] (fun v8 v9 wc=>v9=.bool true∧Aside0 (WMid w.heap.size w T ⟨gT,0,none⟩ cT v8 (opened (at_+i) op out) wc))
       case first =>
        cases op
        ·go_wp2_with (first|((with_reducible refine gate_builtin (b:=.append) (xs:=#[.tmp 53,.tmp 58]) rfl ?_);at_builtin;refine Kd.S_append k52 (w0:=w) w.heap.size rfl (.tmp 53) (.tmp 58) 41 52 (.agg #[(.int .i64 0),(.int .i64 0),(.slice none 0 0)]) 40 rfl Try.underlying41 ginfoEd rfl (by decide) (by omega) _ out (⟨at_+i,0,[]⟩:Ed) [.int .i64 (at_+i),.int .i64 0,.slice none 0 0] (fun _=>True) (fun _=>False) rfl rfl (k52_mkM _ _ _ (⟨at_+i,0,[]⟩:Ed) (Kd.R_nil _ _ _ _ _)) (fun _ h=>h.elim) (fun _ _=>trivial) (Kd.S_mono HM.out.own (fun _ _=>⟨trivial,id⟩)) HM.out.bel HM.out.bel.size (by have:=HLn.out;omega) ?_;intro v2 w2 ho hb hg hat;have HM2:=Aside0.mk (WMid.mk (T:=T) (AT:=⟨gT,0,none⟩) (cT:=cT) ho (Kd.S_over' HM.out.tab (Kd.S_typed HM.out.own) (by decide) hg) hb);clear ho hb hg hat))
         go_meet
         exact ⟨rfl,HM2⟩
        ·go_wp2
         go_meet
         exact ⟨rfl,HM⟩
       case rest =>
        clear HM f3 f4 f5
        obtain ⟨rfl,HM⟩:=hcut
        have HON:=Aside0.mk (opened_ne (at_+i) op out HW.out.ne)
        have HOL:=Aside0.mk (show (opened (at_+i) op out).length≤i+k+1 by have:=opened_len (at_+i) op out;have:=HW.out.len;omega)
        have HOD:=Aside0.mk (opened_del (at_:=at_+i) (op:=op) HW.out.del)
        have HGO:=Aside0.mk (show edits (at_+i) op out (steps (x.drop i) (y.drop k))=_ from HW.out.goes)
        rw [HK.out] at HGO
        simp only [edits] at HGO
        clear HW HK HLn
        generalize opened (at_+i) op out=out' at *
        have hp:0<out'.length:=List.length_pos_iff.2 HON.out
        have hp2:out'.length≤131073:=by have:=HOL.out;omega
        obtain ⟨g,cap,ev,hgb,hgl,HGc⟩:=Kd.S_form HM.out.own hp
        subst ev
        obtain ⟨jl,hjl⟩:∃ j:Int,j=(out'.length:Int) - 1:=⟨_,rfl⟩
        have kj:IntKind.i64.wrap ((out'.length:Int) - 1)=jl:=by rw [hjl];exact IntWalk.i64_in _ (by omega)
        have j0:0≤jl:=by omega
        have j1:jl<(out'.length:Int):=by omega
        have HJ:=Aside0.mk (show jl.toNat=out'.length - 1 by omega)
        have GB:=Aside0.mk hgb
        clear hjl hgl hgb HGc
        obtain ⟨Ar1,cr1,nr1,hn1,ht1,ht2⟩:=tab_at HM.out.tab HI.out (i+1) k (by omega) (by omega)
        obtain ⟨Ar2,cr2,nr2,hn2,ht3,ht4⟩:=tab_at HM.out.tab HI.out i (k+1) (by omega) (by omega)
        have ht5:wc.cell? ⟨Ar2.block,Ar2.off+(k+1),none⟩=some (.int .i64 (lcsLen (x.drop i) (y.drop (k+1)))):=by rw [← add_succ_at];exact ht4
        generalize lcsLen (x.drop (i+1)) (y.drop k)=l1 at *
        generalize lcsLen (x.drop i) (y.drop (k+1))=l2 at *
        have HTl:=HI.out.len
        have g3:(i:Int)+1<(T.length:Int):=by omega
        have g4:(k:Int)<(nr1:Int):=by omega
        have g5:(k:Int)+1<(nr2:Int):=by omega
        have g6:(i:Int)<(T.length:Int):=by omega
        have k1:IntKind.i64.wrap ((i:Int)+1)=(i:Int)+1:=IntWalk.i64_in _ (by omega)
        have k2:IntKind.i64.wrap ((k:Int)+1)=(k:Int)+1:=IntWalk.i64_in _ (by omega)
        have k3:(0:Int)≤(i:Int)+1:=by omega
        have k4:(0:Int)≤(k:Int)+1:=by omega
        have k5:((i:Int)+1).toNat=i+1:=by omega
        have k6:((k:Int)+1).toNat=k+1:=by omega
        have g7:i+1<T.length:=by omega
        have g8:k+1<nr2:=by omega
        clear HTl hn1 hn2
        have f1:((k:Int) == (y.length:Int))=false:=beq_eq_false_iff_ne.2 (by omega)
        have f2:(k == y.length)=false:=beq_eq_false_iff_ne.2 (by omega)
        have f3:decide (i<x.length)=true:=by simp;omega
        have f4:decide ((l2:Int)≤(l1:Int))=true:=by simp;omega
        have f6:decide (l2≤l1)=true:=by simp;omega
        go_wp2
        go_quiet (fail)
        have HM3:=Aside0.mk (HM.out.drewN nq)
        obtain ⟨hd1,hd2,hd3,hd4⟩:=own_del HM3.out.own HON.out j0 HJ.out
        have HD3:=Aside0.mk hd3
        have HEL:=HOD.out _ (edLast_mem HON.out)
        have hb1:0≤(edLast out').f1:=HEL.1
        have hb2:(edLast out').f1≤65536:=by have:=HEL.2.1;omega
        have HE2:=Aside0.mk HEL
        clear hd3 hd4 HEL
        obtain ⟨cg,hcg⟩:∃ cells,(wc.drewN nq).heap[g]?=some (.cells cells 52 (0,0)):=Kd.S_typed HM3.out.own g rfl
        have HCG:=Aside0.mk hcg
        clear hcg
        go_wp2
        go_roundg gk'
        case measure=>have:=HG.out;omega
        case rel =>
         refine ⟨i+1,k,true,addDel out',rfl,by go_num,rfl,⟨by have:=HQ.out;have:=HG.out;omega⟩,⟨?_⟩⟩
         refine ⟨by omega,by omega,fun _=>addDel_ne _ HON.out,by have h:=HGO.out;rw [Int.add_assoc] at h;exact h,?_,Kd.S_set HM3.out.tab HCG.out (by decide) _ _,by rw [addDel_len];have:=HOL.out;omega,?_,below_set HM3.out.bel GB.out⟩
         ·have h:=HD3.out
          have h2:=addDel_len out'
          exact h
         ·intro e he
          rcases mem_addDel HON.out he with he|rfl
          ·have:=HOD.out e he;omega
          ·have:=HE2.out;exact ⟨by show 0≤_+_;omega,by show _+_≤_;omega,this.2.2⟩
      ·skip
       -- ins
       obtain ⟨ad1,e1,hx1⟩:=at_str (Kd.C_below HR1.out HW.out.bel) i h1
       obtain ⟨ad2,e2,hx2⟩:=at_str (Kd.C_below HR2.out HW.out.bel) k h2
       cases e1
       cases e2
       have f3:decide (i<x.length)=true:=by simp;omega
       have f4:decide (k<y.length)=true:=by simp;omega
       have g1:(i:Int)<(x.length:Int):=by omega
       have g2:(k:Int)<(y.length:Int):=by omega
       have f5:((x[i]).toList == (y[k]).toList)=false:=(Lib.bytes_beq_false_iff _ _).2 he
       have HK:=Aside0.mk (steps_ins h1 h2 he hl)
       have HLn:=Aside0.mk (show out.length≤131072 by have:=HW.out.len;omega)
       clear he
       go_upto_if 52 with (fail)
       go_quiet (fail)
       go_upto_if 52 with (fail)
       have HM:=Aside0.mk (WMid.mk (HW.out.drewN nq).own (HW.out.drewN nq).tab (HW.out.drewN nq).bel)
       go_cut [8,9] (fun v8 v9 wc=>v9=.bool true∧Aside0 (WMid w.heap.size w T ⟨gT,0,none⟩ cT v8 (opened (at_+i) op out) wc))
       case first =>
        cases op
        ·go_wp2_with (first|((with_reducible refine gate_builtin (b:=.append) (xs:=#[.tmp 53,.tmp 58]) rfl ?_);at_builtin;refine Kd.S_append k52 (w0:=w) w.heap.size rfl (.tmp 53) (.tmp 58) 41 52 (.agg #[(.int .i64 0),(.int .i64 0),(.slice none 0 0)]) 40 rfl Try.underlying41 ginfoEd rfl (by decide) (by omega) _ out (⟨at_+i,0,[]⟩:Ed) [.int .i64 (at_+i),.int .i64 0,.slice none 0 0] (fun _=>True) (fun _=>False) rfl rfl (k52_mkM _ _ _ (⟨at_+i,0,[]⟩:Ed) (Kd.R_nil _ _ _ _ _)) (fun _ h=>h.elim) (fun _ _=>trivial) (Kd.S_mono HM.out.own (fun _ _=>⟨trivial,id⟩)) HM.out.bel HM.out.bel.size (by have:=HLn.out;omega) ?_;intro v2 w2 ho hb hg hat;have HM2:=Aside0.mk (WMid.mk (T:=T) (AT:=⟨gT,0,none⟩) (cT:=cT) ho (Kd.S_over' HM.out.tab (Kd.S_typed HM.out.own) (by decide) hg) hb);clear ho hb hg hat))
         go_meet
         exact ⟨rfl,HM2⟩
        ·go_wp2
         go_meet
         exact ⟨rfl,HM⟩
       case rest =>
        clear HM f3 f4 f5
        obtain ⟨rfl,HM⟩:=hcut
        have HON:=Aside0.mk (opened_ne (at_+i) op out HW.out.ne)
        have HOL:=Aside0.mk (show (opened (at_+i) op out).length≤i+k+1 by have:=opened_len (at_+i) op out;have:=HW.out.len;omega)
        have HOD:=Aside0.mk (opened_del (at_:=at_+i) (op:=op) HW.out.del)
        have HGO:=Aside0.mk (show edits (at_+i) op out (steps (x.drop i) (y.drop k))=_ from HW.out.goes)
        rw [HK.out] at HGO
        simp only [edits] at HGO
        clear HW HK HLn
        generalize opened (at_+i) op out=out' at *
        have hp:0<out'.length:=List.length_pos_iff.2 HON.out
        have hp2:out'.length≤131073:=by have:=HOL.out;omega
        obtain ⟨g,cap,ev,hgb,hgl,HGc⟩:=Kd.S_form HM.out.own hp
        subst ev
        obtain ⟨jl,hjl⟩:∃ j:Int,j=(out'.length:Int) - 1:=⟨_,rfl⟩
        have kj:IntKind.i64.wrap ((out'.length:Int) - 1)=jl:=by rw [hjl];exact IntWalk.i64_in _ (by omega)
        have j0:0≤jl:=by omega
        have j1:jl<(out'.length:Int):=by omega
        have HJ:=Aside0.mk (show jl.toNat=out'.length - 1 by omega)
        have GB:=Aside0.mk hgb
        clear hjl hgl hgb HGc
        obtain ⟨Ar1,cr1,nr1,hn1,ht1,ht2⟩:=tab_at HM.out.tab HI.out (i+1) k (by omega) (by omega)
        obtain ⟨Ar2,cr2,nr2,hn2,ht3,ht4⟩:=tab_at HM.out.tab HI.out i (k+1) (by omega) (by omega)
        have ht5:wc.cell? ⟨Ar2.block,Ar2.off+(k+1),none⟩=some (.int .i64 (lcsLen (x.drop i) (y.drop (k+1)))):=by rw [← add_succ_at];exact ht4
        generalize lcsLen (x.drop (i+1)) (y.drop k)=l1 at *
        generalize lcsLen (x.drop i) (y.drop (k+1))=l2 at *
        have HTl:=HI.out.len
        have g3:(i:Int)+1<(T.length:Int):=by omega
        have g4:(k:Int)<(nr1:Int):=by omega
        have g5:(k:Int)+1<(nr2:Int):=by omega
        have g6:(i:Int)<(T.length:Int):=by omega
        have k1:IntKind.i64.wrap ((i:Int)+1)=(i:Int)+1:=IntWalk.i64_in _ (by omega)
        have k2:IntKind.i64.wrap ((k:Int)+1)=(k:Int)+1:=IntWalk.i64_in _ (by omega)
        have k3:(0:Int)≤(i:Int)+1:=by omega
        have k4:(0:Int)≤(k:Int)+1:=by omega
        have k5:((i:Int)+1).toNat=i+1:=by omega
        have k6:((k:Int)+1).toNat=k+1:=by omega
        have g7:i+1<T.length:=by omega
        have g8:k+1<nr2:=by omega
        clear HTl hn1 hn2
        have f1:((k:Int) == (y.length:Int))=false:=beq_eq_false_iff_ne.2 (by omega)
        have f2:(k == y.length)=false:=beq_eq_false_iff_ne.2 (by omega)
        have f3:decide (i<x.length)=true:=by simp;omega
        have f4:decide ((l2:Int)≤(l1:Int))=false:=by simp;omega
        have f6:decide (l2≤l1)=false:=by simp;omega
        go_wp2
        go_quiet (fail)
        have HM3:=Aside0.mk (HM.out.drewN nq)
        have hx2w:=Aside0.mk (at_str HR2.out k h2)
        obtain ⟨vi,Ai,ci,oki,evi,hs0,hri,hfr,hvg,hins⟩:=own_ins (y[k]) HM3.out.drew.own HON.out j0 HJ.out
        subst evi
        have hs1:((wc.drewN nq).drew).cell? (ad2.add k)=some (.string y[k]):=by obtain ⟨ad3,e3,h3⟩:=hx2w.out;cases e3;exact pw_cell_below HM3.out.drew.bel h3
        have HRI:=Aside0.mk hri
        have HFR:=Aside0.mk hfr
        have HIN:=Aside0.mk hins
        have HM4:=Aside0.mk HM3.out.drew
        have HE2:=Aside0.mk (HOD.out _ (edLast_mem HON.out))
        have hel:(edLast out').f2.length≤65536:=by have:=HE2.out;omega
        clear hri hfr hins hvg hx2
        have HS2:=Aside0.mk (show ∀ W':World,Below w.heap.size w W'→W'.cell? (ad2.add k)=some (.string y[k]) from fun W' hW=>by obtain ⟨ad3,e3,h3⟩:=hx2w.out;cases e3;exact pw_cell_below hW h3)
        clear hx2w
        generalize y[k]=s2 at *
        go_wp2
        refine start_ (n:=14) (S:=fun w'=>w'.cell? ⟨g,jl.toNat * 3+2,none⟩=some (.slice Ai (edLast out').f2.length ci)∧w'.cell? (ad2.add k)=some (.string s2)) (ds:=[13]) #[false,false,false,false,false,false,false,false,false,false,false,false,false,false] (by kernel_rfl) rfl rfl ⟨hs0,hs1⟩ (fun hHeld=>?_)
        refine with_tabW diff_walk.tab14 diff_walk.bits14 (fun HT_ HW_=>?_)
        generalize (wc.drewN nq).drew=w3 at HM4 HRI HFR HIN hs0 hs1 hHeld ⊢
        refine pure_ (i:=0) (N:=some 103) (v:=?_) (a':=?_) #[true,false,false,false,false,false,false,false,false,false,false,false,false,false] rfl rfl (any_of HT_.out (by kernel_rfl)) (fun _ _ _ h=>h) (Or.inl ⟨by rfl,?_⟩) ?_ ?_
        rotate_left
        ·intro w'
         go_simp
         with_reducible rfl
        rotate_left
        ·simp only [Act.put,List.setIfInBounds_toArray,List.set_cons_zero,List.set_cons_succ,i64_w,i32_w]
         rfl
        refine pure_ (i:=1) (N:=some 104) (v:=?_) (a':=?_) #[true,true,false,false,false,false,false,false,false,false,false,false,false,false] rfl rfl (any_of HT_.out (by kernel_rfl)) (fun _ _ _ h=>h) (Or.inl ⟨by rfl,?_⟩) ?_ ?_
        rotate_left
        ·intro w'
         go_simp
         with_reducible rfl
        rotate_left
        ·simp only [Act.put,List.setIfInBounds_toArray,List.set_cons_zero,List.set_cons_succ,i64_w,i32_w]
         rfl
        refine pure_ (i:=2) (N:=some 105) (v:=?_) (a':=?_) #[true,true,true,false,false,false,false,false,false,false,false,false,false,false] rfl rfl (any_of HT_.out (by kernel_rfl)) (fun _ _ _ h=>h) (Or.inl ⟨by rfl,?_⟩) ?_ ?_
        rotate_left
        ·intro w'
         go_simp
         with_reducible rfl
        rotate_left
        ·simp only [Act.put,List.setIfInBounds_toArray,List.set_cons_zero,List.set_cons_succ,i64_w,i32_w]
         rfl
        refine pure_ (i:=3) (N:=some 106) (v:=?_) (a':=?_) #[true,true,true,true,false,false,false,false,false,false,false,false,false,false] rfl rfl (any_of HT_.out (by kernel_rfl)) (fun _ _ _ h=>h) (Or.inl ⟨by rfl,?_⟩) ?_ ?_
        rotate_left
        ·intro w'
         go_simp
         with_reducible rfl
        rotate_left
        ·simp only [Act.put,List.setIfInBounds_toArray,List.set_cons_zero,List.set_cons_succ,i64_w,i32_w]
         rfl
        refine pure_ (i:=5) (N:=some 108) (v:=?_) (a':=?_) #[true,true,true,true,false,true,false,false,false,false,false,false,false,false] rfl rfl (any_of HT_.out (by kernel_rfl)) (fun _ _ _ h=>h) (Or.inl ⟨by rfl,?_⟩) ?_ ?_
        rotate_left
        ·intro w'
         go_simp
         with_reducible rfl
        rotate_left
        ·simp only [Act.put,List.setIfInBounds_toArray,List.set_cons_zero,List.set_cons_succ,i64_w,i32_w]
         rfl
        refine pure_ (i:=6) (N:=some 109) (v:=?_) (a':=?_) #[true,true,true,true,false,true,true,false,false,false,false,false,false,false] rfl rfl (any_of HT_.out (by kernel_rfl)) (fun _ _ _ h=>h) (Or.inl ⟨by rfl,?_⟩) ?_ ?_
        rotate_left
        ·intro w'
         go_simp
         with_reducible rfl
        rotate_left
        ·simp only [Act.put,List.setIfInBounds_toArray,List.set_cons_zero,List.set_cons_succ,i64_w,i32_w]
         rfl
        refine pure_ (i:=7) (N:=some 110) (v:=?_) (a':=?_) #[true,true,true,true,false,true,true,true,false,false,false,false,false,false] rfl rfl (any_of HT_.out (by kernel_rfl)) (fun _ _ _ h=>h) (Or.inl ⟨by rfl,?_⟩) ?_ ?_
        rotate_left
        ·intro w'
         go_simp
         with_reducible rfl
        rotate_left
        ·simp only [Act.put,List.setIfInBounds_toArray,List.set_cons_zero,List.set_cons_succ,i64_w,i32_w]
         rfl
        refine take_ (i:=4) (N:=some 107) (v:=?_) (a':=?_) #[true,true,true,true,true,true,true,true,false,false,false,false,false,false] rfl rfl (take_ofW HT_.out HW_.out (by kernel_rfl)) (fun _ _ _ h=>h) (Or.inl ⟨by rfl,?_⟩) hHeld ?_ ?_
        rotate_left
        ·rintro w' ⟨s0,s1⟩
         go_simp
         with_reducible rfl
        rotate_left
        ·simp only [Act.put,List.setIfInBounds_toArray,List.set_cons_zero,List.set_cons_succ,i64_w,i32_w]
         rfl
        refine take_ (i:=8) (N:=some 111) (v:=?_) (a':=?_) #[true,true,true,true,true,true,true,true,true,false,false,false,false,false] rfl rfl (take_ofW HT_.out HW_.out (by kernel_rfl)) (fun _ _ _ h=>h) (Or.inl ⟨by rfl,?_⟩) hHeld ?_ ?_
        rotate_left
        ·rintro w' ⟨s0,s1⟩
         go_simp
         with_reducible rfl
        rotate_left
        ·simp only [Act.put,List.setIfInBounds_toArray,List.set_cons_zero,List.set_cons_succ,i64_w,i32_w]
         rfl
        refine one_ (i:=9) (N:=some 112) #[true,true,true,true,true,true,true,true,true,true,false,false,false,false] rfl rfl (one_of HT_.out (by kernel_rfl)) (by decide) (fun K hK=>?_)
        refine value_ (w1:=?_) (v:=?_) (by rfl) rfl ?_ ?_
        rotate_left 2
        ·go_simp
         constructor
         ·rfl
         ·rfl
        refine hK.out _ _ ⟨(pw_cell_below (below_alloc (Below.refl _ _) _) hs0),(pw_cell_below (below_alloc (Below.refl _ _) _) hs1)⟩ (fun hHeld=>?_)
        clear hK K
        refine norm_ (a':=?_) ?_ ?_
        rotate_left
        ·show Act.put _ (some 112) _=_
         simp only [Act.put,List.setIfInBounds_toArray,List.set_cons_zero,List.set_cons_succ,i64_w,i32_w]
         rfl
        refine one_ (i:=10) (N:=some 113) #[true,true,true,true,true,true,true,true,true,true,true,false,false,false] rfl rfl (one_of HT_.out (by kernel_rfl)) (by decide) (fun K hK=>?_)
        refine Kd.R_append_step Kd.string (w0:=w) w.heap.size (by rfl) (.tmp 107) (.tmp 112) 22 9 (.string ⟨#[]⟩) 16 rfl Try.underlying22 ginfoStrW rfl (by decide) (by omega) (.slice Ai (edLast out').f2.length ci) (edLast out').f2 s2 [.string s2] oki (fun _=>False) rfl rfl rfl (fun _ h=>h.elim) HFR.out HRI.out HM4.out.bel HM4.out.bel.size (by omega) ?_
        intro v3 w5 ho hb hg hat
        obtain ⟨A3,c3,e3⟩:=Kd.R_slice ho
        rw [List.length_append,List.length_singleton] at e3
        subst e3
        obtain ⟨hc3,hf3,hS3,hg3,cg,hcg⟩:=HIN.out w3 w5 _ (Below.refl _ _) hg ho
        have HT5:=Aside0.mk (Kd.S_over' HM4.out.tab (Kd.R_typed HRI.out) (by decide) hg)
        have HB5:=Aside0.mk hb
        have HS5:=Aside0.mk hS3
        have HCG:=Aside0.mk hcg
        have hs1':=HS2.out w5 hb
        clear ho hb hg hat hS3 hg3 hcg hs0 hs1
        refine hK.out _ _ ⟨hc3,hs1'⟩ (fun hHeld=>?_)
        clear hK K
        refine norm_ (a':=?_) ?_ ?_
        rotate_left
        ·show Act.put _ (some 113) _=_
         simp only [Act.put,List.setIfInBounds_toArray,List.set_cons_zero,List.set_cons_succ,i64_w,i32_w]
         rfl
        refine pure_ (i:=11) (N:=some 114) (v:=?_) (a':=?_) #[true,true,true,true,true,true,true,true,true,true,true,true,false,false] rfl rfl (any_of HT_.out (by kernel_rfl)) (fun _ _ _ h=>h) (Or.inl ⟨by rfl,?_⟩) ?_ ?_
        rotate_left
        ·intro w'
         go_simp
         with_reducible rfl
        rotate_left
        ·simp only [Act.put,List.setIfInBounds_toArray,List.set_cons_zero,List.set_cons_succ,i64_w,i32_w]
         rfl
        refine pure_ (i:=12) (N:=some 115) (v:=?_) (a':=?_) #[true,true,true,true,true,true,true,true,true,true,true,true,true,false] rfl rfl (any_of HT_.out (by kernel_rfl)) (fun _ _ _ h=>h) (Or.inl ⟨by rfl,?_⟩) ?_ ?_
        rotate_left
        ·intro w'
         go_simp
         with_reducible rfl
        rotate_left
        ·simp only [Act.put,List.setIfInBounds_toArray,List.set_cons_zero,List.set_cons_succ,i64_w,i32_w]
         rfl
        refine last_ (i:=13) (N:=none) #[true,true,true,true,true,true,true,true,true,true,true,true,true,true] rfl rfl (one_of HT_.out (by kernel_rfl)) (by decide) (fun K hK=>?_)
        refine skip_ (w1:=?_) (by rfl) rfl ?_ ?_
        rotate_left
        ·go_simp
         rfl
        refine hK.out _ _ ?_
        clear hK K
        refine done_ (done_of HT_.out (by kernel_rfl)) ?_

        go_wp2
        go_roundg gk'
        case measure=>have:=HG.out;omega
        case rel =>
         refine ⟨i,k+1,true,addIns s2 out',rfl,rfl,by go_num,⟨by have:=HQ.out;have:=HG.out;omega⟩,⟨?_⟩⟩
         refine ⟨by omega,by omega,fun _=>addIns_ne _ _ HON.out,HGO.out,HS5.out,Kd.S_set HT5.out HCG.out (by decide) _ _,by rw [addIns_len];have:=HOL.out;omega,?_,below_set HB5.out GB.out⟩
         intro e he
         rcases mem_addIns HON.out he with he|rfl
         ·have:=HOD.out e he;omega
         ·have:=HE2.out;exact ⟨this.1,this.2.1,by show ((edLast out').f2++[s2]).length≤k+1;rw [List.length_append,List.length_singleton];omega⟩
     ·clear heq hend
      -- delend
      have f3:decide (i<x.length)=true:=by simp;omega
      have f4:decide (k<y.length)=false:=by simp;omega
      have HK:=Aside0.mk (steps_del_end h1 h2)
      have HLn:=Aside0.mk (show out.length≤131072 by have:=HW.out.len;omega)
      go_upto_if 52 with (fail)
      go_quiet (fail)
      go_upto_if 52 with (fail)
      have HM:=Aside0.mk (WMid.mk (HW.out.drewN nq).own (HW.out.drewN nq).tab (HW.out.drewN nq).bel)
      go_cut [8,9] (fun v8 v9 wc=>v9=.bool true∧Aside0 (WMid w.heap.size w T ⟨gT,0,none⟩ cT v8 (opened (at_+i) op out) wc))
      case first =>
       cases op
       ·go_wp2_with (first|((with_reducible refine gate_builtin (b:=.append) (xs:=#[.tmp 53,.tmp 58]) rfl ?_);at_builtin;refine Kd.S_append k52 (w0:=w) w.heap.size rfl (.tmp 53) (.tmp 58) 41 52 (.agg #[(.int .i64 0),(.int .i64 0),(.slice none 0 0)]) 40 rfl Try.underlying41 ginfoEd rfl (by decide) (by omega) _ out (⟨at_+i,0,[]⟩:Ed) [.int .i64 (at_+i),.int .i64 0,.slice none 0 0] (fun _=>True) (fun _=>False) rfl rfl (k52_mkM _ _ _ (⟨at_+i,0,[]⟩:Ed) (Kd.R_nil _ _ _ _ _)) (fun _ h=>h.elim) (fun _ _=>trivial) (Kd.S_mono HM.out.own (fun _ _=>⟨trivial,id⟩)) HM.out.bel HM.out.bel.size (by have:=HLn.out;omega) ?_;intro v2 w2 ho hb hg hat;have HM2:=Aside0.mk (WMid.mk (T:=T) (AT:=⟨gT,0,none⟩) (cT:=cT) ho (Kd.S_over' HM.out.tab (Kd.S_typed HM.out.own) (by decide) hg) hb);clear ho hb hg hat))
        go_meet
        exact ⟨rfl,HM2⟩
       ·go_wp2
        go_meet
        exact ⟨rfl,HM⟩
      case rest =>
       clear HM f3 f4
       obtain ⟨rfl,HM⟩:=hcut
       have HON:=Aside0.mk (opened_ne (at_+i) op out HW.out.ne)
       have HOL:=Aside0.mk (show (opened (at_+i) op out).length≤i+k+1 by have:=opened_len (at_+i) op out;have:=HW.out.len;omega)
       have HOD:=Aside0.mk (opened_del (at_:=at_+i) (op:=op) HW.out.del)
       have HGO:=Aside0.mk (show edits (at_+i) op out (steps (x.drop i) (y.drop k))=_ from HW.out.goes)
       rw [HK.out] at HGO
       simp only [edits] at HGO
       clear HW HK HLn
       generalize opened (at_+i) op out=out' at *
       have hp:0<out'.length:=List.length_pos_iff.2 HON.out
       have hp2:out'.length≤131073:=by have:=HOL.out;omega
       obtain ⟨g,cap,ev,hgb,hgl,HGc⟩:=Kd.S_form HM.out.own hp
       subst ev
       obtain ⟨jl,hjl⟩:∃ j:Int,j=(out'.length:Int) - 1:=⟨_,rfl⟩
       have kj:IntKind.i64.wrap ((out'.length:Int) - 1)=jl:=by rw [hjl];exact IntWalk.i64_in _ (by omega)
       have j0:0≤jl:=by omega
       have j1:jl<(out'.length:Int):=by omega
       have HJ:=Aside0.mk (show jl.toNat=out'.length - 1 by omega)
       have GB:=Aside0.mk hgb
       clear hjl hgl hgb HGc
       have f1:((k:Int) == (y.length:Int))=true:=beq_iff_eq.2 (by omega)
       have f2:(k == y.length)=true:=beq_iff_eq.2 (by omega)
       go_wp2
       go_quiet (fail)
       have HM3:=Aside0.mk (HM.out.drewN nq)
       obtain ⟨hd1,hd2,hd3,hd4⟩:=own_del HM3.out.own HON.out j0 HJ.out
       have HD3:=Aside0.mk hd3
       have HEL:=HOD.out _ (edLast_mem HON.out)
       have hb1:0≤(edLast out').f1:=HEL.1
       have hb2:(edLast out').f1≤65536:=by have:=HEL.2.1;omega
       have HE2:=Aside0.mk HEL
       clear hd3 hd4 HEL
       obtain ⟨cg,hcg⟩:∃ cells,(wc.drewN nq).heap[g]?=some (.cells cells 52 (0,0)):=Kd.S_typed HM3.out.own g rfl
       have HCG:=Aside0.mk hcg
       clear hcg
       go_wp2
       go_roundg gk'
       case measure=>have:=HG.out;omega
       case rel =>
        refine ⟨i+1,k,true,addDel out',rfl,by go_num,rfl,⟨by have:=HQ.out;have:=HG.out;omega⟩,⟨?_⟩⟩
        refine ⟨by omega,by omega,fun _=>addDel_ne _ HON.out,by have h:=HGO.out;rw [Int.add_assoc] at h;exact h,?_,Kd.S_set HM3.out.tab HCG.out (by decide) _ _,by rw [addDel_len];have:=HOL.out;omega,?_,below_set HM3.out.bel GB.out⟩
        ·have h:=HD3.out
         have h2:=addDel_len out'
         exact h
        ·intro e he
         rcases mem_addDel HON.out he with he|rfl
         ·have:=HOD.out e he;omega
         ·have:=HE2.out;exact ⟨by show 0≤_+_;omega,by show _+_≤_;omega,this.2.2⟩
    ·have h2:k<y.length:=by omega
     clear heq hend
     -- insend
     obtain ⟨ad2,e2,hx2⟩:=at_str (Kd.C_below HR2.out HW.out.bel) k h2
     cases e2
     have f3:decide (i<x.length)=false:=by simp;omega
     have f4:decide (k<y.length)=true:=by simp;omega
     have g2:(k:Int)<(y.length:Int):=by omega
     have HK:=Aside0.mk (steps_ins_end h1 h2)
     have HLn:=Aside0.mk (show out.length≤131072 by have:=HW.out.len;omega)
     go_upto_if 52 with (fail)
     go_quiet (fail)
     go_upto_if 52 with (fail)
     have HM:=Aside0.mk (WMid.mk (HW.out.drewN nq).own (HW.out.drewN nq).tab (HW.out.drewN nq).bel)
     go_cut [8,9] (fun v8 v9 wc=>v9=.bool true∧Aside0 (WMid w.heap.size w T ⟨gT,0,none⟩ cT v8 (opened (at_+i) op out) wc))
     case first =>
      cases op
      ·go_wp2_with (first|((with_reducible refine gate_builtin (b:=.append) (xs:=#[.tmp 53,.tmp 58]) rfl ?_);at_builtin;refine Kd.S_append k52 (w0:=w) w.heap.size rfl (.tmp 53) (.tmp 58) 41 52 (.agg #[(.int .i64 0),(.int .i64 0),(.slice none 0 0)]) 40 rfl Try.underlying41 ginfoEd rfl (by decide) (by omega) _ out (⟨at_+i,0,[]⟩:Ed) [.int .i64 (at_+i),.int .i64 0,.slice none 0 0] (fun _=>True) (fun _=>False) rfl rfl (k52_mkM _ _ _ (⟨at_+i,0,[]⟩:Ed) (Kd.R_nil _ _ _ _ _)) (fun _ h=>h.elim) (fun _ _=>trivial) (Kd.S_mono HM.out.own (fun _ _=>⟨trivial,id⟩)) HM.out.bel HM.out.bel.size (by have:=HLn.out;omega) ?_;intro v2 w2 ho hb hg hat;have HM2:=Aside0.mk (WMid.mk (T:=T) (AT:=⟨gT,0,none⟩) (cT:=cT) ho (Kd.S_over' HM.out.tab (Kd.S_typed HM.out.own) (by decide) hg) hb);clear ho hb hg hat))
       go_meet
       exact ⟨rfl,HM2⟩
      ·go_wp2
       go_meet
       exact ⟨rfl,HM⟩
     case rest =>
      clear HM f3 f4
      obtain ⟨rfl,HM⟩:=hcut
      have HON:=Aside0.mk (opened_ne (at_+i) op out HW.out.ne)
      have HOL:=Aside0.mk (show (opened (at_+i) op out).length≤i+k+1 by have:=opened_len (at_+i) op out;have:=HW.out.len;omega)
      have HOD:=Aside0.mk (opened_del (at_:=at_+i) (op:=op) HW.out.del)
      have HGO:=Aside0.mk (show edits (at_+i) op out (steps (x.drop i) (y.drop k))=_ from HW.out.goes)
      rw [HK.out] at HGO
      simp only [edits] at HGO
      clear HW HK HLn
      generalize opened (at_+i) op out=out' at *
      have hp:0<out'.length:=List.length_pos_iff.2 HON.out
      have hp2:out'.length≤131073:=by have:=HOL.out;omega
      obtain ⟨g,cap,ev,hgb,hgl,HGc⟩:=Kd.S_form HM.out.own hp
      subst ev
      obtain ⟨jl,hjl⟩:∃ j:Int,j=(out'.length:Int) - 1:=⟨_,rfl⟩
      have kj:IntKind.i64.wrap ((out'.length:Int) - 1)=jl:=by rw [hjl];exact IntWalk.i64_in _ (by omega)
      have j0:0≤jl:=by omega
      have j1:jl<(out'.length:Int):=by omega
      have HJ:=Aside0.mk (show jl.toNat=out'.length - 1 by omega)
      have GB:=Aside0.mk hgb
      clear hjl hgl hgb HGc
      have f1:((k:Int) == (y.length:Int))=false:=beq_eq_false_iff_ne.2 (by omega)
      have f2:(k == y.length)=false:=beq_eq_false_iff_ne.2 (by omega)
      have f3:decide (i<x.length)=false:=by simp;omega
      go_wp2
      go_quiet (fail)
      have HM3:=Aside0.mk (HM.out.drewN nq)
      have hx2w:=Aside0.mk (at_str HR2.out k h2)
      obtain ⟨vi,Ai,ci,oki,evi,hs0,hri,hfr,hvg,hins⟩:=own_ins (y[k]) HM3.out.drew.own HON.out j0 HJ.out
      subst evi
      have hs1:((wc.drewN nq).drew).cell? (ad2.add k)=some (.string y[k]):=by obtain ⟨ad3,e3,h3⟩:=hx2w.out;cases e3;exact pw_cell_below HM3.out.drew.bel h3
      have HRI:=Aside0.mk hri
      have HFR:=Aside0.mk hfr
      have HIN:=Aside0.mk hins
      have HM4:=Aside0.mk HM3.out.drew
      have HE2:=Aside0.mk (HOD.out _ (edLast_mem HON.out))
      have hel:(edLast out').f2.length≤65536:=by have:=HE2.out;omega
      clear hri hfr hins hvg hx2
      have HS2:=Aside0.mk (show ∀ W':World,Below w.heap.size w W'→W'.cell? (ad2.add k)=some (.string y[k]) from fun W' hW=>by obtain ⟨ad3,e3,h3⟩:=hx2w.out;cases e3;exact pw_cell_below hW h3)
      clear hx2w
      generalize y[k]=s2 at *
      go_wp2
      refine start_ (n:=14) (S:=fun w'=>w'.cell? ⟨g,jl.toNat * 3+2,none⟩=some (.slice Ai (edLast out').f2.length ci)∧w'.cell? (ad2.add k)=some (.string s2)) (ds:=[13]) #[false,false,false,false,false,false,false,false,false,false,false,false,false,false] (by kernel_rfl) rfl rfl ⟨hs0,hs1⟩ (fun hHeld=>?_)
      refine with_tabW diff_walk.tab14 diff_walk.bits14 (fun HT_ HW_=>?_)
      generalize (wc.drewN nq).drew=w3 at HM4 HRI HFR HIN hs0 hs1 hHeld ⊢
      refine pure_ (i:=0) (N:=some 103) (v:=?_) (a':=?_) #[true,false,false,false,false,false,false,false,false,false,false,false,false,false] rfl rfl (any_of HT_.out (by kernel_rfl)) (fun _ _ _ h=>h) (Or.inl ⟨by rfl,?_⟩) ?_ ?_
      rotate_left
      ·intro w'
       go_simp
       with_reducible rfl
      rotate_left
      ·simp only [Act.put,List.setIfInBounds_toArray,List.set_cons_zero,List.set_cons_succ,i64_w,i32_w]
       rfl
      refine pure_ (i:=1) (N:=some 104) (v:=?_) (a':=?_) #[true,true,false,false,false,false,false,false,false,false,false,false,false,false] rfl rfl (any_of HT_.out (by kernel_rfl)) (fun _ _ _ h=>h) (Or.inl ⟨by rfl,?_⟩) ?_ ?_
      rotate_left
      ·intro w'
       go_simp
       with_reducible rfl
      rotate_left
      ·simp only [Act.put,List.setIfInBounds_toArray,List.set_cons_zero,List.set_cons_succ,i64_w,i32_w]
       rfl
      refine pure_ (i:=2) (N:=some 105) (v:=?_) (a':=?_) #[true,true,true,false,false,false,false,false,false,false,false,false,false,false] rfl rfl (any_of HT_.out (by kernel_rfl)) (fun _ _ _ h=>h) (Or.inl ⟨by rfl,?_⟩) ?_ ?_
      rotate_left
      ·intro w'
       go_simp
       with_reducible rfl
      rotate_left
      ·simp only [Act.put,List.setIfInBounds_toArray,List.set_cons_zero,List.set_cons_succ,i64_w,i32_w]
       rfl
      refine pure_ (i:=3) (N:=some 106) (v:=?_) (a':=?_) #[true,true,true,true,false,false,false,false,false,false,false,false,false,false] rfl rfl (any_of HT_.out (by kernel_rfl)) (fun _ _ _ h=>h) (Or.inl ⟨by rfl,?_⟩) ?_ ?_
      rotate_left
      ·intro w'
       go_simp
       with_reducible rfl
      rotate_left
      ·simp only [Act.put,List.setIfInBounds_toArray,List.set_cons_zero,List.set_cons_succ,i64_w,i32_w]
       rfl
      refine pure_ (i:=5) (N:=some 108) (v:=?_) (a':=?_) #[true,true,true,true,false,true,false,false,false,false,false,false,false,false] rfl rfl (any_of HT_.out (by kernel_rfl)) (fun _ _ _ h=>h) (Or.inl ⟨by rfl,?_⟩) ?_ ?_
      rotate_left
      ·intro w'
       go_simp
       with_reducible rfl
      rotate_left
      ·simp only [Act.put,List.setIfInBounds_toArray,List.set_cons_zero,List.set_cons_succ,i64_w,i32_w]
       rfl
      refine pure_ (i:=6) (N:=some 109) (v:=?_) (a':=?_) #[true,true,true,true,false,true,true,false,false,false,false,false,false,false] rfl rfl (any_of HT_.out (by kernel_rfl)) (fun _ _ _ h=>h) (Or.inl ⟨by rfl,?_⟩) ?_ ?_
      rotate_left
      ·intro w'
       go_simp
       with_reducible rfl
      rotate_left
      ·simp only [Act.put,List.setIfInBounds_toArray,List.set_cons_zero,List.set_cons_succ,i64_w,i32_w]
       rfl
      refine pure_ (i:=7) (N:=some 110) (v:=?_) (a':=?_) #[true,true,true,true,false,true,true,true,false,false,false,false,false,false] rfl rfl (any_of HT_.out (by kernel_rfl)) (fun _ _ _ h=>h) (Or.inl ⟨by rfl,?_⟩) ?_ ?_
      rotate_left
      ·intro w'
       go_simp
       with_reducible rfl
      rotate_left
      ·simp only [Act.put,List.setIfInBounds_toArray,List.set_cons_zero,List.set_cons_succ,i64_w,i32_w]
       rfl
      refine take_ (i:=4) (N:=some 107) (v:=?_) (a':=?_) #[true,true,true,true,true,true,true,true,false,false,false,false,false,false] rfl rfl (take_ofW HT_.out HW_.out (by kernel_rfl)) (fun _ _ _ h=>h) (Or.inl ⟨by rfl,?_⟩) hHeld ?_ ?_
      rotate_left
      ·rintro w' ⟨s0,s1⟩
       go_simp
       with_reducible rfl
      rotate_left
      ·simp only [Act.put,List.setIfInBounds_toArray,List.set_cons_zero,List.set_cons_succ,i64_w,i32_w]
       rfl
      refine take_ (i:=8) (N:=some 111) (v:=?_) (a':=?_) #[true,true,true,true,true,true,true,true,true,false,false,false,false,false] rfl rfl (take_ofW HT_.out HW_.out (by kernel_rfl)) (fun _ _ _ h=>h) (Or.inl ⟨by rfl,?_⟩) hHeld ?_ ?_
      rotate_left
      ·rintro w' ⟨s0,s1⟩
       go_simp
       with_reducible rfl
      rotate_left
      ·simp only [Act.put,List.setIfInBounds_toArray,List.set_cons_zero,List.set_cons_succ,i64_w,i32_w]
       rfl
      refine one_ (i:=9) (N:=some 112) #[true,true,true,true,true,true,true,true,true,true,false,false,false,false] rfl rfl (one_of HT_.out (by kernel_rfl)) (by decide) (fun K hK=>?_)
      refine value_ (w1:=?_) (v:=?_) (by rfl) rfl ?_ ?_
      rotate_left 2
      ·go_simp
       constructor
       ·rfl
       ·rfl
      refine hK.out _ _ ⟨(pw_cell_below (below_alloc (Below.refl _ _) _) hs0),(pw_cell_below (below_alloc (Below.refl _ _) _) hs1)⟩ (fun hHeld=>?_)
      clear hK K
      refine norm_ (a':=?_) ?_ ?_
      rotate_left
      ·show Act.put _ (some 112) _=_
       simp only [Act.put,List.setIfInBounds_toArray,List.set_cons_zero,List.set_cons_succ,i64_w,i32_w]
       rfl
      refine one_ (i:=10) (N:=some 113) #[true,true,true,true,true,true,true,true,true,true,true,false,false,false] rfl rfl (one_of HT_.out (by kernel_rfl)) (by decide) (fun K hK=>?_)
      refine Kd.R_append_step Kd.string (w0:=w) w.heap.size (by rfl) (.tmp 107) (.tmp 112) 22 9 (.string ⟨#[]⟩) 16 rfl Try.underlying22 ginfoStrW rfl (by decide) (by omega) (.slice Ai (edLast out').f2.length ci) (edLast out').f2 s2 [.string s2] oki (fun _=>False) rfl rfl rfl (fun _ h=>h.elim) HFR.out HRI.out HM4.out.bel HM4.out.bel.size (by omega) ?_
      intro v3 w5 ho hb hg hat
      obtain ⟨A3,c3,e3⟩:=Kd.R_slice ho
      rw [List.length_append,List.length_singleton] at e3
      subst e3
      obtain ⟨hc3,hf3,hS3,hg3,cg,hcg⟩:=HIN.out w3 w5 _ (Below.refl _ _) hg ho
      have HT5:=Aside0.mk (Kd.S_over' HM4.out.tab (Kd.R_typed HRI.out) (by decide) hg)
      have HB5:=Aside0.mk hb
      have HS5:=Aside0.mk hS3
      have HCG:=Aside0.mk hcg
      have hs1':=HS2.out w5 hb
      clear ho hb hg hat hS3 hg3 hcg hs0 hs1
      refine hK.out _ _ ⟨hc3,hs1'⟩ (fun hHeld=>?_)
      clear hK K
      refine norm_ (a':=?_) ?_ ?_
      rotate_left
      ·show Act.put _ (some 113) _=_
       simp only [Act.put,List.setIfInBounds_toArray,List.set_cons_zero,List.set_cons_succ,i64_w,i32_w]
       rfl
      refine pure_ (i:=11) (N:=some 114) (v:=?_) (a':=?_) #[true,true,true,true,true,true,true,true,true,true,true,true,false,false] rfl rfl (any_of HT_.out (by kernel_rfl)) (fun _ _ _ h=>h) (Or.inl ⟨by rfl,?_⟩) ?_ ?_
      rotate_left
      ·intro w'
       go_simp
       with_reducible rfl
      rotate_left
      ·simp only [Act.put,List.setIfInBounds_toArray,List.set_cons_zero,List.set_cons_succ,i64_w,i32_w]
       rfl
      refine pure_ (i:=12) (N:=some 115) (v:=?_) (a':=?_) #[true,true,true,true,true,true,true,true,true,true,true,true,true,false] rfl rfl (any_of HT_.out (by kernel_rfl)) (fun _ _ _ h=>h) (Or.inl ⟨by rfl,?_⟩) ?_ ?_
      rotate_left
      ·intro w'
       go_simp
       with_reducible rfl
      rotate_left
      ·simp only [Act.put,List.setIfInBounds_toArray,List.set_cons_zero,List.set_cons_succ,i64_w,i32_w]
       rfl
      refine last_ (i:=13) (N:=none) #[true,true,true,true,true,true,true,true,true,true,true,true,true,true] rfl rfl (one_of HT_.out (by kernel_rfl)) (by decide) (fun K hK=>?_)
      refine skip_ (w1:=?_) (by rfl) rfl ?_ ?_
      rotate_left
      ·go_simp
       rfl
      refine hK.out _ _ ?_
      clear hK K
      refine done_ (done_of HT_.out (by kernel_rfl)) ?_

      go_wp2
      go_roundg gk'
      case measure=>have:=HG.out;omega
      case rel =>
       refine ⟨i,k+1,true,addIns s2 out',rfl,rfl,by go_num,⟨by have:=HQ.out;have:=HG.out;omega⟩,⟨?_⟩⟩
       refine ⟨by omega,by omega,fun _=>addIns_ne _ _ HON.out,HGO.out,HS5.out,Kd.S_set HT5.out HCG.out (by decide) _ _,by rw [addIns_len];have:=HOL.out;omega,?_,below_set HB5.out GB.out⟩
       intro e he
       rcases mem_addIns HON.out he with he|rfl
       ·have:=HOD.out e he;omega
       ·have:=HE2.out;exact ⟨this.1,this.2.1,by show ((edLast out').f2++[s2]).length≤k+1;rw [List.length_append,List.length_singleton];omega⟩
end Go.Proofs.Ytnmphfelebkaiaa.Pr
-- shrunk
/-
grapevineref04.Same's contract: it answers whether two lists of edits are one.
-/
namespace Go.Proofs.Ytnmphfelebkaiaa.Pr
open Go.RowKit Go.Proofs.YtnmphfelebkaiaaW.PrintWords Go.Proofs.YtnmphfelebkaiaaW.PrintLast Go.Proofs.YtnmphfelebkaiaaW.PrintMore
instance edDec:DecidableEq Ed:=fun a b=>decidable_of_iff (a.f0=b.f0∧a.f1=b.f1∧a.f2=b.f2) ⟨fun h=>by cases a;cases b;obtain ⟨h1,h2,h3⟩:=h;cases h1;cases h2;cases h3;rfl,fun h=>by subst h;exact ⟨rfl,rfl,rfl⟩⟩
def Ok40 (l:List Ed):Prop:=l.length≤1099511627776∧∀ e ∈ l,e.f2.length≤1099511627776
instance (l:List Ed):Decidable (Ok40 l):=by unfold Ok40;infer_instance
theorem at_ed {w:World} {A:Option Addr} {xs:List Ed} (h:Kd.C k52 w A xs.length xs) (i:Nat) (hi:i<xs.length) :
  ∃ ad A2 c2,A=some ad∧w.cell? (ad.add (i * 3))=some (.int .i64 (xs[i]).f0)∧w.cell? ⟨(ad.add (i * 3)).block,(ad.add (i * 3)).off+1,none⟩=some (.int .i64 (xs[i]).f1) ∧
   w.cell? ⟨(ad.add (i * 3)).block,(ad.add (i * 3)).off+2,none⟩=some (.slice A2 (xs[i]).f2.length c2)∧(xs[i]).f2.length≤c2∧Kd.C Kd.string w A2 (xs[i]).f2.length (xs[i]).f2:=by
 have e:rd_T52 xs (i:Int)=xs[i]:=by
  rw [rd_T52,Int.toNat_natCast,List.getD_eq_getElem?_getD,List.getElem?_eq_getElem hi,Option.getD_some]
 have h2:=at_T52 h (i:Int) (by omega) (by omega)
 rw [e] at h2
 exact h2
end Go.Proofs.Ytnmphfelebkaiaa.Pr
-- shrunk
/-
What the printed functions of layer 4 compute, as plain Lean: equality of lists, what is right, sizes.
-/
namespace Go.Proofs.Ytnmphfelebkaiaa.Pr
open Go.RowKit Go.Proofs.YtnmphfelebkaiaaW.PrintWords Go.Proofs.YtnmphfelebkaiaaW.PrintLast Go.Proofs.YtnmphfelebkaiaaW.PrintMore
def okFrom (fr many:Int):List Ed→Bool
 | []=>true
 | e :: l=>decide (fr≤e.f0∧0≤e.f1∧e.f0≤many∧e.f1≤many - e.f0∧¬ (e.f1=0∧e.f2=[])) && okFrom (e.f0+e.f1+1) many l
def sizeE:List Ed→Int
 | []=>0
 | e :: l=>max 0 e.f1+(e.f2.length:Int)+sizeE l
theorem sizeE_nonneg:∀ l,0≤sizeE l
 | []=>by simp [sizeE]
 | e :: l=>by have:=sizeE_nonneg l;simp only [sizeE];omega
end Go.Proofs.Ytnmphfelebkaiaa.Pr
-- shrunk
/-
The table of diff.walk holds the lengths of the longest common subsequences of all ends.
-/
namespace Go.Proofs.Ytnmphfelebkaiaa.Pr
open Go.RowKit Go.Proofs.YtnmphfelebkaiaaW.PrintWords Go.Proofs.YtnmphfelebkaiaaW.PrintLast Go.Proofs.YtnmphfelebkaiaaW.PrintMore
theorem lcsLen_nil (x:List ByteArray):lcsLen x []=0:=by cases x<;>simp [lcsLen]
theorem nil_lcsLen (x:List ByteArray):lcsLen [] x=0:=by simp [lcsLen]
theorem lcsLen_le:∀ x y:List ByteArray,lcsLen x y≤x.length
 | [],y=>by simp [lcsLen]
 | x :: xs,[]=>by simp [lcsLen]
 | x :: xs,y :: ys=>by
  have h1:=lcsLen_le xs ys
  have h2:=lcsLen_le xs (y :: ys)
  have h3:=lcsLen_le (x :: xs) ys
  rw [lcsLen]
  simp only [List.length_cons] at *
  split<;>omega
termination_by x y=>x.length+y.length
theorem lcsLen_at {x y:List ByteArray} {i j:Nat} (hi:i<x.length) (hj:j<y.length) :
  lcsLen (x.drop i) (y.drop j)=if x[i]=y[j] then lcsLen (x.drop (i+1)) (y.drop (j+1))+1 else max (lcsLen (x.drop (i+1)) (y.drop j)) (lcsLen (x.drop i) (y.drop (j+1))):=by
 have hx:=List.drop_eq_getElem_cons hi
 have hy:=List.drop_eq_getElem_cons hj
 conv=>lhs;rw [hx,hy,lcsLen]
 rw [hx,hy]
def cellOf (x y:List ByteArray) (i c:Nat):Int:=(lcsLen (x.drop i) (y.drop c):Int)
def rowOf (x y:List ByteArray) (i:Nat):List Int:=(List.range (y.length+1)).map (cellOf x y i)
def tabOf (x y:List ByteArray):List (List Int):=(List.range (x.length+1)).map (rowOf x y)
theorem rowOf_at {x y:List ByteArray} {i c:Nat} (h:c≤y.length):(rowOf x y i)[c]?=some (cellOf x y i c):=by
 simp [rowOf,show c<y.length+1 by omega]
theorem tabOf_at {x y:List ByteArray} {i:Nat} (h:i≤x.length):(tabOf x y)[i]?=some (rowOf x y i):=by
 simp [tabOf,show i<x.length+1 by omega]
theorem row_ext {x y:List ByteArray} {i:Nat} {r:List Int} (hl:r.length=y.length+1) (h:∀ c,c≤y.length→r[c]?=some (cellOf x y i c)):r=rowOf x y i:=by
 apply List.ext_getElem?
 intro c
 by_cases hc:c≤y.length
 ·rw [h c hc,rowOf_at hc]
 rw [List.getElem?_eq_none (by omega),List.getElem?_eq_none (by simp [rowOf];omega)]
theorem tab_ext {x y:List ByteArray} {T:List (List Int)} (hl:T.length=x.length+1) (h:∀ r,r≤x.length→T[r]?=some (rowOf x y r)):T=tabOf x y:=by
 apply List.ext_getElem?
 intro c
 by_cases hc:c≤x.length
 ·rw [h c hc,tabOf_at hc]
 rw [List.getElem?_eq_none (by omega),List.getElem?_eq_none (by simp [tabOf];omega)]
structure Inv0 (x y:List ByteArray) (T:List (List Int)) (i:Nat):Prop where
 len:T.length=x.length+1
 rows:∀ r,i≤r→r≤x.length→T[r]?=some (rowOf x y r)
structure Inv1 (x y:List ByteArray) (T:List (List Int)) (i j:Nat) (row:List Int):Prop where
 inv:Inv0 x y T (i+1)
 at_:T[i]?=some row
 len:row.length=y.length+1
 cells:∀ c,j≤c→c≤y.length→row[c]?=some (cellOf x y i c)
theorem rdL_of {T:List (List Int)} {i:Nat} {row:List Int} (h:T[i]?=some row):rd_LI T (i:Int)=row:=by
 rw [rd_LI,Int.toNat_natCast,List.getD_eq_getElem?_getD,h,Option.getD_some]
theorem rd_of {r:List Int} {i:Nat} {v:Int} (h:r[i]?=some v):rd r (i:Int)=v:=by
 rw [rd,Int.toNat_natCast,List.getD_eq_getElem?_getD,h,Option.getD_some]
theorem Inv1.set {x y:List ByteArray} {T:List (List Int)} {i j:Nat} {row:List Int} (h:Inv1 x y T i (j+1) row) (hi:i<x.length) (hj:j≤y.length) {v:Int} (hv:v=cellOf x y i j) :
  Inv1 x y (T.set i (row.set j v)) i j (row.set j v):=by
 refine ⟨⟨by rw [List.length_set];exact h.inv.len,fun r h1 h2=>?_⟩,?_,by rw [List.length_set];exact h.len,fun c h1 h2=>?_⟩
 ·rw [List.getElem?_set_ne (by omega)]
  exact h.inv.rows r h1 h2
 ·rw [List.getElem?_set_self (by have:=h.inv.len;omega)]
 by_cases hc:j=c
 ·subst hc
  rw [List.getElem?_set_self (by have:=h.len;omega),hv]
 rw [List.getElem?_set_ne hc]
 exact h.cells c (by omega) h2
theorem table_l1 (x y:List ByteArray) (hx:x.length≤65536) (hy:y.length≤65536) (i:Nat) (hi:i<x.length)
  (hrec:∀ T,Inv0 x y T i→Ev (fun k=>diff_table.l0 k x y T ((i:Int) - 1)) (tabOf x y)):∀ j,j≤y.length→∀ T row,Inv1 x y T i j row→Ev (fun k=>diff_table.l1 k x y T (i:Int) ((j:Int) - 1)) (tabOf x y):=by
 intro j
 induction j with
 | zero =>
  intro _ T row h
  refine Ev.step (fun _=>diff_table.l1.eq_2 ..) ?_
  simp only [if_neg (show ¬ (((0:Nat):Int) - 1) ≥ 0 by omega),w_in (x:=(i:Int) - 1) (by omega) (by omega)]
  refine hrec T ⟨h.inv.len,fun r h1 h2=>?_⟩
  by_cases hr:i=r
  ·subst hr
   rw [h.at_,row_ext h.len (fun c hc=>h.cells c (Nat.zero_le _) hc)]
  exact h.inv.rows r (by omega) h2
 | succ j ih =>
  intro hj T row h
  refine Ev.step (fun _=>diff_table.l1.eq_2 ..) ?_
  have hTl:=h.inv.len
  have hrl:=h.len
  have e0:(((j+1:Nat):Int) - 1)=(j:Int):=by omega
  have ri:=rdL_of h.at_
  have hi1:wrap64 ((i:Int)+1)=((i+1:Nat):Int):=w_succ hi (by omega)
  have hj1:wrap64 ((j:Int)+1)=((j+1:Nat):Int):=w_succ (show j<y.length by omega) (by omega)
  have rn:=h.inv.rows (i+1) (Nat.le_refl _) (by omega)
  have rn':=rdL_of rn
  have hnl:(rowOf x y (i+1)).length=y.length+1:=by simp [rowOf]
  have c1:=rd_of (rowOf_at (x:=x) (y:=y) (i:=i+1) (c:=j) (by omega))
  have c2:=rd_of (h.cells (j+1) (Nat.le_refl _) hj)
  have c3:=rd_of (rowOf_at (x:=x) (y:=y) (i:=i+1) (c:=j+1) hj)
  have jm:wrap64 ((j:Int) - 1)=(j:Int) - 1:=w_in (by omega) (by omega)
  have hb:cellOf x y (i+1) j≤65536∧cellOf x y (i+1) (j+1)+1≤9223372036854775807∧0≤cellOf x y (i+1) (j+1):=by
   have q1:=lcsLen_le (x.drop (i+1)) (y.drop j)
   have q2:=lcsLen_le (x.drop (i+1)) (y.drop (j+1))
   rw [List.length_drop] at q1 q2
   unfold cellOf
   omega
  have hmx:mx (cellOf x y (i+1) j) (cellOf x y i (j+1))=max (cellOf x y (i+1) j) (cellOf x y i (j+1)):=by unfold mx;omega
  simp only [e0,if_pos (show (j:Int) ≥ 0 by omega),if_pos (show 0≤(i:Int) by omega),if_pos (show (i:Int)<(T.length:Int) by omega),hi1,if_pos (show 0≤((i+1:Nat):Int) by omega),if_pos (show ((i+1:Nat):Int)<(T.length:Int) by omega),if_pos (show 0≤(j:Int) by omega),rn',ri,
   if_pos (show (j:Int)<((rowOf x y (i+1)).length:Int) by omega),hj1,if_pos (show 0≤((j+1:Nat):Int) by omega),if_pos (show ((j+1:Nat):Int)<(row.length:Int) by omega),if_pos (show (j:Int)<(row.length:Int) by omega),c1,c2,hmx,Option.bind_some,
   if_pos (show (i:Int)<(x.length:Int) by omega),if_pos (show (j:Int)<(y.length:Int) by omega),rdS_at hi,rdS_at (show j<y.length by omega),toList_iff,Int.toNat_natCast,jm]
  have hla:=lcsLen_at hi (show j<y.length by omega)
  by_cases he:x[i]=y[j]
  ·rw [if_pos he] at hla
   have r2:(T.set i (row.set j (max (cellOf x y (i+1) j) (cellOf x y i (j+1)))))[i+1]?=some (rowOf x y (i+1)):=by rw [List.getElem?_set_ne (by omega)];exact rn
   have r3:(T.set i (row.set j (max (cellOf x y (i+1) j) (cellOf x y i (j+1)))))[i]?=some (row.set j (max (cellOf x y (i+1) j) (cellOf x y i (j+1)))):=by rw [List.getElem?_set_self (by omega)]
   simp only [if_pos he,rdL_of r2,rdL_of r3,if_pos (show ((j+1:Nat):Int)<((rowOf x y (i+1)).length:Int) by omega),List.length_set,if_pos (show (j:Int)<(row.length:Int) by omega),c3,List.set_set,w_in (x:=cellOf x y (i+1) (j+1)+1) (by omega) (by omega)]
   exact ih (by omega) _ _ (h.set hi (by omega) (by unfold cellOf;rw [hla];omega))
  rw [if_neg he] at hla
  simp only [if_neg he]
  exact ih (by omega) _ _ (h.set hi (by omega) (by unfold cellOf;rw [hla];omega))
theorem table_l0 (x y:List ByteArray) (hx:x.length≤65536) (hy:y.length≤65536):∀ i,i≤x.length→∀ T,Inv0 x y T i→Ev (fun k=>diff_table.l0 k x y T ((i:Int) - 1)) (tabOf x y):=by
 intro i
 induction i with
 | zero =>
  intro _ T h
  refine Ev.step (fun _=>diff_table.l0.eq_2 ..) ?_
  simp only [if_neg (show ¬ (((0:Nat):Int) - 1) ≥ 0 by omega)]
  rw [← tab_ext h.len (fun r hr=>h.rows r (Nat.zero_le _) hr)]
  exact Ev.now _
 | succ i ih =>
  intro hi T h
  refine Ev.step (fun _=>diff_table.l0.eq_2 ..) ?_
  have hTl:=h.len
  have e0:(((i+1:Nat):Int) - 1)=(i:Int):=by omega
  have w1:wrap64 ((y.length:Int)+1)=((y.length+1:Nat):Int):=by unfold wrap64;omega
  have w2:wrap64 ((y.length:Int) - 1)=(y.length:Int) - 1:=w_in (by omega) (by omega)
  simp only [e0,if_pos (show (i:Int) ≥ 0 by omega),w1,if_pos (show 0≤((y.length+1:Nat):Int) by omega),Int.toNat_natCast,if_pos (show y.length+1≤35184372088832 by omega),if_pos (show 0≤(i:Int) by omega),if_pos (show (i:Int)<(T.length:Int) by omega),w2]
  refine table_l1 x y hx hy i (by omega) (fun T' h'=>ih (by omega) T' h') y.length (Nat.le_refl _) _ (List.replicate (y.length+1) 0) ⟨⟨by rw [List.length_set];exact hTl,fun r h1 h2=>?_⟩,?_,by simp,fun c h1 h2=>?_⟩
  ·rw [List.getElem?_set_ne (by omega)]
   exact h.rows r h1 h2
  ·rw [List.getElem?_set_self (by omega)]
  have hc:c=y.length:=by omega
  subst hc
  simp [cellOf,lcsLen_nil]
theorem table_ok (x y:List ByteArray) (hx:x.length≤65536) (hy:y.length≤65536):∃ k T,diff_table.f k x y=some T∧IsTab x y T:=by
 have w0:wrap64 ((x.length:Int)+1)=((x.length+1:Nat):Int):=by unfold wrap64;omega
 have w1:wrap64 ((y.length:Int)+1)=((y.length+1:Nat):Int):=by unfold wrap64;omega
 have w2:wrap64 ((x.length:Int) - 1)=(x.length:Int) - 1:=w_in (by omega) (by omega)
 have h:Ev (fun k=>diff_table.f k x y) (tabOf x y):=by
  unfold diff_table.f
  simp only [w0,w1,w2,Int.toNat_natCast,Option.bind_some,List.length_replicate,if_pos (show 0≤((x.length+1:Nat):Int) by omega),if_pos (show x.length+1≤11728124029610 by omega),if_pos (show 0≤((y.length+1:Nat):Int) by omega),if_pos (show y.length+1≤35184372088832 by omega),if_pos (show 0≤(x.length:Int) by omega),if_pos (show (x.length:Int)<((x.length+1:Nat):Int) by omega)]
  refine table_l0 x y hx hy x.length (Nat.le_refl _) _ ⟨by simp,fun r h1 h2=>?_⟩
  have hr:r=x.length:=by omega
  subst hr
  rw [List.getElem?_set_self (by simp)]
  congr 1
  refine row_ext (by simp) (fun c hc=>?_)
  simp [show c<y.length+1 by omega,cellOf,nil_lcsLen]
 obtain ⟨k,hk⟩:=h.rounds
 have e:∀ i,i≤x.length→(tabOf x y).getD i []=rowOf x y i:=fun i hi=>by rw [List.getD_eq_getElem?_getD,tabOf_at hi,Option.getD_some]
 refine ⟨k,tabOf x y,hk,⟨by simp [tabOf],fun i hi=>?_,fun i j hi hj=>?_⟩⟩
 ·rw [e i hi];simp [rowOf]
 rw [e i hi,List.getD_eq_getElem?_getD,rowOf_at hj,Option.getD_some];rfl
end Go.Proofs.Ytnmphfelebkaiaa.Pr
-- shrunk
/-
diff.Diff's contract: it answers what is between two lists of at most 2^42 lines, as plain Lean says (between).
-/
namespace Go.Proofs.Ytnmphfelebkaiaa.Pr
open Go.RowKit Go.Proofs.YtnmphfelebkaiaaW.PrintWords Go.Proofs.YtnmphfelebkaiaaW.PrintLast Go.Proofs.YtnmphfelebkaiaaW.PrintMore
def leadFrom (g:Nat→Bool):Nat→Nat→Nat
 | i,0=>i
 | i,n+1=>if g i=true then leadFrom g (i+1) n else i
set_option maxHeartbeats 400000 in
theorem diff_common.calls (K:Nat) (p q:Addr) (g:Nat→Bool) (m:Nat) (w:World) (hm:m≤4398046511104)
  (hK:∀ (args:Array Value) (w':World),(callFunc K args).run Try.prog w'=.ok (.enter K args) w')
  (hF:∀ (j:Nat) (w':World),j<m→Drawn0 w w'→Calls Try.prog K #[.int .i64 j,.pointer (some p),.pointer (some q)] w' fun e w''=>e=.returned (.bool (g j))∧Drawn0 w' w'') :
  Calls Try.prog 28 #[.int .i64 m,.func (.func K) #[] #[.pointer (some p),.pointer (some q)]] w fun e w'=>e=.returned (.int .i64 (leadFrom g 0 m))∧Drawn0 w w':=by
 have HF:=Aside0.mk hF
 clear hF
 go_enter Try.func28,Try.ntmps28
 go_wp2
 go_loopw [5,7] (fun x i w'=>∃ k:Nat,k≤m∧i=.int .i64 k∧Aside0 (leadFrom g k (m - k)=leadFrom g 0 m)∧Drawn0 w w') (fun _ i _=>m - (intOf i).toNat)
 case atStart=>exact ⟨0,Nat.zero_le _,rfl,⟨rfl⟩,Drawn0.refl _⟩
 case round =>
  obtain ⟨k,hk,rfl,HL,HD⟩:=hrel
  by_cases hlt:k<m
  rotate_left
  ·have f1:decide ((k:Int)<(m:Int))=false:=by simp;omega
   have HL2:=Aside0.mk (show leadFrom g 0 m=m by rw [← HL.out,show m - k=0 by omega];show k=m;omega)
   clear HL HF
   go_wp2
   go_ret
   exact ⟨by rw [HL2.out];rfl,HD⟩
  have f1:decide ((k:Int)<(m:Int))=true:=by simp;omega
  have hL:leadFrom g k (m - k)=if g k=true then leadFrom g (k+1) (m - (k+1)) else k:=by
   rw [show m - k=(m - (k+1))+1 by omega];rfl
  rcases hg:g k with _|_
  ·have HL2:=Aside0.mk (show leadFrom g 0 m=k by rw [← HL.out,hL,hg];rfl)
   have HC:=HF.out k _ hlt HD
   rw [hg] at HC
   have HC2:=Aside0.mk HC
   clear HC hL hg HL HF
   go_wp2_with ((with_reducible refine HC2.out.mono ?_);rintro e w1 ⟨rfl,hd⟩;have HD1:=Aside0.mk hd;clear hd)
   go_ret
   refine ⟨by rw [HL2.out];rfl,?_⟩
   obtain ⟨n1,rfl⟩:=HD
   obtain ⟨n2,rfl⟩:=HD1.out
   exact ⟨⟨n1+n2,World.drewN_drewN ..⟩⟩
  have HL2:=Aside0.mk (show leadFrom g (k+1) (m - (k+1))=leadFrom g 0 m by rw [← HL.out,hL,hg];rfl)
  have HC:=HF.out k _ hlt HD
  rw [hg] at HC
  have HC2:=Aside0.mk HC
  clear HC hL hg HL HF
  go_wp2_with ((with_reducible refine HC2.out.mono ?_);rintro e w1 ⟨rfl,hd⟩;have HD1:=Aside0.mk hd;clear hd)
  go_roundw
  case rel =>
   refine ⟨k+1,by omega,by go_num,HL2,?_⟩
   obtain ⟨n1,rfl⟩:=HD
   obtain ⟨n2,rfl⟩:=HD1.out
   exact ⟨⟨n1+n2,World.drewN_drewN ..⟩⟩
  case measure=>simp [intOf];omega
set_option maxHeartbeats 400000 in
theorem diff_Diff1.calls (i:Nat) (p q:Addr) (A0:Option Addr) (c0:Nat) (l0:List ByteArray) (A1:Option Addr) (c1:Nat) (l1:List ByteArray) (w:World)
  (hp:w.cell? p=some (.slice A0 l0.length c0)) (hq:w.cell? q=some (.slice A1 l1.length c1)) (hr0:Kd.C Kd.string w A0 l0.length l0) (hr1:Kd.C Kd.string w A1 l1.length l1) (h0:i<l0.length) (h1:i<l1.length) :
  Calls Try.prog 29 #[.int .i64 i,.pointer (some p),.pointer (some q)] w fun e w'=>e=.returned (.bool ((l0[i]).toList == (l1[i]).toList))∧Drawn0 w w':=by
 obtain ⟨ad0,e0,hx0⟩:=Kd.at_string hr0 (i:Int) (by omega) (by omega)
 obtain ⟨ad1,e1,hx1⟩:=Kd.at_string hr1 (i:Int) (by omega) (by omega)
 cases e0
 cases e1
 have hy0:w.cell? (ad0.add i)=some (.string l0[i]):=by simpa [rdOf,List.getD_eq_getElem?_getD,List.getElem?_eq_getElem h0] using hx0
 have hy1:w.cell? (ad1.add i)=some (.string l1[i]):=by simpa [rdOf,List.getD_eq_getElem?_getD,List.getElem?_eq_getElem h1] using hx1
 clear hx0 hx1 hr0 hr1
 have g0:(0:Int)≤(i:Int):=by omega
 have g1:(i:Int)<(l0.length:Int):=by omega
 have g2:(i:Int)<(l1.length:Int):=by omega
 go_enter Try.func29,Try.ntmps29
 go_wp2
 repeat (go_quiet (fail);try go_wp2)
 go_ret
 exact ⟨rfl,by repeat (first|exact Drawn0.refl _|apply Drawn0.step)⟩
set_option maxHeartbeats 400000 in
theorem diff_Diff2.calls (i:Nat) (p q:Addr) (A0:Option Addr) (c0:Nat) (l0:List ByteArray) (A1:Option Addr) (c1:Nat) (l1:List ByteArray) (w:World)
  (hp:w.cell? p=some (.slice A0 l0.length c0)) (hq:w.cell? q=some (.slice A1 l1.length c1)) (hr0:Kd.C Kd.string w A0 l0.length l0) (hr1:Kd.C Kd.string w A1 l1.length l1) (h0:i<l0.length) (h1:i<l1.length) :
  Calls Try.prog 30 #[.int .i64 i,.pointer (some p),.pointer (some q)] w fun e w'=>e=.returned (.bool ((l0[l0.length - 1 - i]'(by omega)).toList == (l1[l1.length - 1 - i]'(by omega)).toList))∧Drawn0 w w':=by
 have hm0:l0.length≤9223372036854775807:=hr0.2.1
 have hm1:l1.length≤9223372036854775807:=hr1.2.1
 obtain ⟨ad0,e0,hx0⟩:=Kd.at_string hr0 ((l0.length:Int) - 1 - (i:Int)) (by omega) (by omega)
 obtain ⟨ad1,e1,hx1⟩:=Kd.at_string hr1 ((l1.length:Int) - 1 - (i:Int)) (by omega) (by omega)
 cases e0
 cases e1
 have z0:rdOf ByteArray.empty l0 ((l0.length:Int) - 1 - (i:Int))=l0[l0.length - 1 - i]'(by omega):=by
  rw [rdOf,show ((l0.length:Int) - 1 - (i:Int)).toNat=l0.length - 1 - i by omega,List.getD_eq_getElem?_getD,List.getElem?_eq_getElem (by omega),Option.getD_some]
 have z1:rdOf ByteArray.empty l1 ((l1.length:Int) - 1 - (i:Int))=l1[l1.length - 1 - i]'(by omega):=by
  rw [rdOf,show ((l1.length:Int) - 1 - (i:Int)).toNat=l1.length - 1 - i by omega,List.getD_eq_getElem?_getD,List.getElem?_eq_getElem (by omega),Option.getD_some]
 rw [z0] at hx0
 rw [z1] at hx1
 clear hr0 hr1 z0 z1
 generalize (l0[l0.length - 1 - i]'(by omega))=s0 at *
 generalize (l1[l1.length - 1 - i]'(by omega))=s1 at *
 have k0:IntKind.i64.wrap ((l0.length:Int) - 1)=(l0.length:Int) - 1:=IntWalk.i64_in _ (by omega)
 have k1:IntKind.i64.wrap ((l1.length:Int) - 1)=(l1.length:Int) - 1:=IntWalk.i64_in _ (by omega)
 obtain ⟨x0,hj0⟩:∃ j:Int,j=(l0.length:Int) - 1 - (i:Int):=⟨_,rfl⟩
 obtain ⟨x1,hj1⟩:∃ j:Int,j=(l1.length:Int) - 1 - (i:Int):=⟨_,rfl⟩
 rw [← hj0] at hx0
 rw [← hj1] at hx1
 have k2:IntKind.i64.wrap ((l0.length:Int) - 1 - (i:Int))=x0:=by rw [hj0];exact IntWalk.i64_in _ (by omega)
 have k3:IntKind.i64.wrap ((l1.length:Int) - 1 - (i:Int))=x1:=by rw [hj1];exact IntWalk.i64_in _ (by omega)
 have g2:(0:Int)≤x0:=by omega
 have g3:(0:Int)≤x1:=by omega
 have g4:x0<(l0.length:Int):=by omega
 have g5:x1<(l1.length:Int):=by omega
 clear hj0 hj1
 clear hm0 hm1 h0 h1
 go_enter Try.func30,Try.ntmps30
 go_wp2
 repeat (go_quiet (fail);try go_wp2)
 go_ret
 exact ⟨rfl,by repeat (first|exact Drawn0.refl _|apply Drawn0.step)⟩
theorem leadFrom_shift (g:Nat→Bool):∀ n i,leadFrom g (i+1) n=leadFrom (fun j=>g (j+1)) i n+1
 | 0,i=>rfl
 | n+1,i=>by
  rw [leadFrom,leadFrom,leadFrom_shift g n (i+1)]
  split<;>rfl
def same (a b:List ByteArray) (j:Nat):Bool:=(a.getD j ByteArray.empty).toList == (b.getD j ByteArray.empty).toList
theorem lead_common:∀ a b:List ByteArray,leadFrom (same a b) 0 (min a.length b.length)=common a b
 | [],b=>by simp [leadFrom,common]
 | a :: l,[]=>by simp [leadFrom,common]
 | a :: l,b :: m=>by
  have hm:min (a :: l).length (b :: m).length=min l.length m.length+1:=by simp only [List.length_cons];omega
  rw [hm,leadFrom,common]
  by_cases h:a=b
  ·have h1:same (a :: l) (b :: m) 0=true:=(Lib.bytes_beq_iff _ _).2 h
   rw [if_pos h1,if_pos h,leadFrom_shift]
   have h2:(fun j=>same (a :: l) (b :: m) (j+1))=same l m:=rfl
   rw [h2,lead_common l m]
  ·have h1:same (a :: l) (b :: m) 0=false:=(Lib.bytes_beq_false_iff _ _).2 h
   rw [if_neg (by rw [h1];simp),if_neg h]
theorem same_at (a b:List ByteArray) (j:Nat) (h0:j<a.length) (h1:j<b.length):((a[j]).toList == (b[j]).toList)=same a b j:=by
 simp [same,List.getD_eq_getElem?_getD,List.getElem?_eq_getElem h0,List.getElem?_eq_getElem h1]
theorem same_rev (a b:List ByteArray) (j:Nat) (h0:j<a.length) (h1:j<b.length):((a[a.length - 1 - j]'(by omega)).toList == (b[b.length - 1 - j]'(by omega)).toList)=same a.reverse b.reverse j:=by
 rw [← same_at a.reverse b.reverse j (by simpa using h0) (by simpa using h1),List.getElem_reverse,List.getElem_reverse]
theorem common_le:∀ a b:List ByteArray,common a b≤a.length∧common a b≤b.length
 | [],b=>by simp [common]
 | a :: l,[]=>by simp [common]
 | a :: l,b :: m=>by
  have:=common_le l m
  unfold common
  split
  ·simp only [List.length_cons];omega
  ·simp
theorem cutFrom (A:Option Addr) (c:Nat) (xs:List ByteArray) (m:Nat) (hm:m≤xs.length) (hc:xs.length≤c) :
  ∃ A':Option Addr,(∀ W:World,(Instr.slice 22 (.slice A xs.length c) (some (.int .i64 (m:Int))) none none).run Try.prog W=.ok (.slice A' (xs.drop m).length (c - m)) W) ∧
   (∀ w:World,Kd.C Kd.string w A xs.length xs→Kd.C Kd.string w A' (xs.drop m).length (xs.drop m))∧(xs.drop m).length≤c - m:=by
 obtain ⟨i0,hi,hz⟩:=Option.map_eq_some_iff.1 ginfoStr
 simp only [Prod.mk.injEq] at hz
 refine ⟨_,fun W=>?_,fun w h=>Kd.C_drop (c:=c) h hm hc,by rw [List.length_drop];omega⟩
 have h:=cut_from (P:=Try.prog) 22 9 .i64 Try.underlying22 hi 1 hz.2.1 A xs.length c (m:Int) (Int.natCast_nonneg _) (by omega) W
 rw [Int.toNat_natCast] at h
 rw [h,List.length_drop]
 rfl
theorem cutTo (A:Option Addr) (c:Nat) (xs:List ByteArray) (m:Nat) (hm:m≤xs.length) (hc:xs.length≤c) :
  (∀ W:World,(Instr.slice 22 (.slice A xs.length c) none (some (.int .i64 (m:Int))) none).run Try.prog W=.ok (.slice A (xs.take m).length c) W) ∧
   (∀ w:World,Kd.C Kd.string w A xs.length xs→Kd.C Kd.string w A (xs.take m).length (xs.take m))∧(xs.take m).length≤c:=by
 obtain ⟨i0,hi,hz⟩:=Option.map_eq_some_iff.1 ginfoStr
 refine ⟨fun W=>?_,fun w h=>Kd.C_take h hm,by rw [List.length_take];omega⟩
 have h:=cut_to (P:=Try.prog) 22 9 .i64 Try.underlying22 hi A xs.length c (m:Int) (Int.natCast_nonneg _) (by omega) hc W
 rw [Int.toNat_natCast] at h
 rw [h,List.length_take,Nat.min_eq_left hm]
theorem own_single {W:World} {base:Nat} {ok':Nat→Prop} {vi:Value} {a b:Int} {y:List ByteArray} (hR:Kd.R Kd.string 9 W base ok' vi y) (hb:base≤W.heap.size) :
  Kd.S k52 52 (W.alloc (.cells #[.int .i64 a,.int .i64 b,vi] 52)) base (fun _=>True) (.slice (some ⟨W.heap.size,0,none⟩) 1 1) [⟨a,b,y⟩]:=by
 refine ⟨fun _=>0,fun _ _=>trivial,[.int .i64 a,.int .i64 b,vi],?_,?_⟩
 ·have h:=World.ownsRow_lit (base:=base) (e:=52) (size:=3) W #[.int .i64 a,.int .i64 b,vi] 1 hb (by simp [maxLen]) (by simp)
  exact h
 have h2:=Kd.R_alloc (Kd.R_bound hR) (.cells #[.int .i64 a,.int .i64 b,vi] 52)
 refine Reps.c3 ?_ (Reps.none _ _)
 refine k52_mkM _ base _ ⟨a,b,y⟩ (Kd.R_mono h2 (fun k hk=>⟨⟨trivial,fun h=>?_⟩,rfl⟩))
 have h3:k=W.heap.size:=by simpa [Value.ownBlock] using h
 have:=hk.2.2.1
 omega
def diff_Diff.T8:Bool × List (List Nat × List Nat):=(true,[([],[]),([],[]),([1],[1]),([],[]),([3],[3]),([0,2,4],[0,2,4]),([5],[5]),([6,4,0,1,2,3,4,5,6],[6])])
def diff_Diff.B8:List Nat:=[0,0,2,0,8,31,63,127]
theorem diff_Diff.tab8:rtab .any (opsOf Try.f17 8)=diff_Diff.T8:=by kernel_rfl
theorem diff_Diff.bits8:waitsOk diff_Diff.T8.2 diff_Diff.B8=true:=by kernel_rfl
def diff_Diff.f (l0 l1:List ByteArray):Option (List Ed):=if l0.length≤4398046511104∧l1.length≤4398046511104 then some (between l0 l1) else none
structure SBox (base:Nat) (W:World) (p:Nat) (A:Option Addr) (c:Nat) (x:List ByteArray):Prop where
 blk:W.heap[p]?=some (.cells #[.slice A x.length c] 22 (0,0))
 ge:base≤p
 cap:x.length≤c
 reads:Kd.C Kd.string W A x.length x
theorem SBox.cell {base:Nat} {W:World} {p:Nat} {A:Option Addr} {c:Nat} {x:List ByteArray} (h:SBox base W p A c x):W.cell? ⟨p,0,none⟩=some (.slice A x.length c)∧W.frozen? ⟨p,0,none⟩=false:=by
 have hb:=h.blk
 exact ⟨by simp [World.cell?,hb],by simp [World.frozen?,hb]⟩
theorem SBox.drewN {base:Nat} {W:World} {p:Nat} {A:Option Addr} {c:Nat} {x:List ByteArray} (h:SBox base W p A c x) (n:Nat):SBox base (W.drewN n) p A c x:=⟨h.blk,h.ge,h.cap,Kd.C_drewN h.reads n⟩
theorem SBox.drew {base:Nat} {W:World} {p:Nat} {A:Option Addr} {c:Nat} {x:List ByteArray} (h:SBox base W p A c x):SBox base W.drew p A c x:=⟨h.blk,h.ge,h.cap,Kd.C_drew h.reads⟩
theorem SBox.below {base:Nat} {W W1:World} {p:Nat} {A:Option Addr} {c:Nat} {x:List ByteArray} (h:SBox base W p A c x) (hb:Below W.heap.size W W1):SBox base W1 p A c x :=
 ⟨(hb.block p (Array.getElem?_eq_some_iff.1 h.blk).1).trans h.blk,h.ge,h.cap,Kd.C_below h.reads hb⟩
theorem two_boxes {w W:World} {A:Option Addr} {c:Nat} {x:List ByteArray} {A':Option Addr} {c':Nat} {y:List ByteArray} (hB:Below w.heap.size w W) (hx:Kd.C Kd.string W A x.length x) (hcx:x.length≤c) (hy:Kd.C Kd.string W A' y.length y) (hcy:y.length≤c') :
  SBox w.heap.size ((W.alloc (.cells #[.slice A x.length c] 22)).alloc (.cells #[.slice A' y.length c'] 22)).drew W.heap.size A c x ∧
  SBox w.heap.size ((W.alloc (.cells #[.slice A x.length c] 22)).alloc (.cells #[.slice A' y.length c'] 22)).drew (W.heap.size+1) A' c' y ∧
  Below w.heap.size w ((W.alloc (.cells #[.slice A x.length c] 22)).alloc (.cells #[.slice A' y.length c'] 22)).drew:=by
 have hb:Below W.heap.size W ((W.alloc (.cells #[.slice A x.length c] 22)).alloc (.cells #[.slice A' y.length c'] 22)).drew:=below_drew (below_alloc (below_alloc (Below.refl _ _) _) _)
 have h1:=heap_alloc_new (W.alloc (.cells #[.slice A x.length c] 22)) (.cells #[.slice A' y.length c'] 22)
 have h0:(W.alloc (.cells #[.slice A x.length c] 22)).heap.size=W.heap.size+1:=by simp
 rw [h0] at h1
 exact ⟨⟨blk_alloc (heap_alloc_new W _) _,hB.size,hcx,Kd.C_below hx hb⟩,⟨h1,by have:=hB.size;omega,hcy,Kd.C_below hy hb⟩,below_drew (below_alloc (below_alloc hB _) _)⟩
theorem small_l {a b:Nat} (h:¬ (a=0∨b=0∨65536<a * b)):a≤65536:=by
 have h1:0<b:=by omega
 have h2:a * b≤65536:=by omega
 exact Nat.le_trans (Nat.le_mul_of_pos_right a h1) h2
theorem small_r {a b:Nat} (h:¬ (a=0∨b=0∨65536<a * b)):b≤65536:=by
 have h1:0<a:=by omega
 have h2:a * b≤65536:=by omega
 exact Nat.le_trans (Nat.le_mul_of_pos_left b h1) h2
theorem quot_lt (a b:Nat) (hb:0<b):decide ((65536:Int) / (b:Int)<(a:Int))=decide (65536<a * b):=by
 congr 1
 apply propext
 rw [Int.ediv_lt_iff_lt_mul (by omega)]
 omega
theorem SBox.set2 {w W:World} {p q:Nat} {A:Option Addr} {c:Nat} {x:List ByteArray} {A':Option Addr} {c':Nat} {y:List ByteArray} (hp:SBox w.heap.size W p A c x) (hq:SBox w.heap.size W q A' c' y) (hpq:p≠q) (hB:Below w.heap.size w W)
  {B:Option Addr} {d:Nat} {x':List ByteArray} {B':Option Addr} {d':Nat} {y':List ByteArray} (hx:Kd.C Kd.string w B x'.length x') (hd:x'.length≤d) (hy:Kd.C Kd.string w B' y'.length y') (hd':y'.length≤d') :
  SBox w.heap.size ((W.setCell ⟨p,0,none⟩ (.slice B x'.length d)).setCell ⟨q,0,none⟩ (.slice B' y'.length d')).drew p B d x' ∧
  SBox w.heap.size ((W.setCell ⟨p,0,none⟩ (.slice B x'.length d)).setCell ⟨q,0,none⟩ (.slice B' y'.length d')).drew q B' d' y' ∧
  Below w.heap.size w ((W.setCell ⟨p,0,none⟩ (.slice B x'.length d)).setCell ⟨q,0,none⟩ (.slice B' y'.length d')).drew:=by
 have hb1:=below_set (j:=0) (v:=.slice B x'.length d) hB hp.ge
 have hb2:=below_drew (below_set (j:=0) (v:=.slice B' y'.length d') hb1 hq.ge)
 have e1:=blk_set hp.blk 0 (.slice B x'.length d)
 have e2:=blk_far hq.blk (p:=⟨p,0,none⟩) (fun h=>hpq h.symm) (.slice B x'.length d)
 have e3:=blk_set e2 0 (.slice B' y'.length d')
 have e4:=blk_far e1 (p:=⟨q,0,none⟩) hpq (.slice B' y'.length d')
 exact ⟨⟨(by simpa using e4:((W.setCell ⟨p,0,none⟩ (.slice B x'.length d)).setCell ⟨q,0,none⟩ (.slice B' y'.length d')).heap[p]?=some (.cells #[.slice B x'.length d] 22 (0,0))),hp.ge,hd,Kd.C_below hx hb2⟩,⟨(by simpa using e3:((W.setCell ⟨p,0,none⟩ (.slice B x'.length d)).setCell ⟨q,0,none⟩ (.slice B' y'.length d')).heap[q]?=some (.cells #[.slice B' y'.length d'] 22 (0,0))),hq.ge,hd',Kd.C_below hy hb2⟩,hb2⟩
set_option maxRecDepth 100000 in
set_option maxHeartbeats 4000000 in
theorem diff_Diff.calls (A0:Option Addr) (c0:Nat) (l0:List ByteArray) (A1:Option Addr) (c1:Nat) (l1:List ByteArray) (r:List Ed) (w:World) (hr0:Kd.C Kd.string w A0 l0.length l0) (hc0:l0.length≤c0) (hr1:Kd.C Kd.string w A1 l1.length l1) (hc1:l1.length≤c1) (h:diff_Diff.f l0 l1=some r) :
  Calls Try.prog 17 #[.slice A0 l0.length c0,.slice A1 l1.length c1] w fun e w'=>∃ v0_:Value,e=.returned (v0_)∧Kd.S k52 52 w' w.heap.size (fun _=>True) v0_ r∧Below w.heap.size w w':=by
 unfold diff_Diff.f at h
 by_cases hl:l0.length≤4398046511104∧l1.length≤4398046511104
 rotate_left
 ·rw [if_neg hl] at h;cases h
 rw [if_pos hl] at h
 obtain rfl:=Option.some.inj h
 obtain ⟨hl0,hl1⟩:=hl
 have HR0:=Aside0.mk hr0
 have HC0:=Aside0.mk hc0
 have HR1:=Aside0.mk hr1
 have HC1:=Aside0.mk hc1
 clear h hr0 hc0 hr1 hc1
 have hmf:∀ (fn:Fn) (first cap:Array Value) (W:World),(Instr.makeFunc fn first cap).run Try.prog W=.ok (.func fn first cap) W:=fun _ _ _ _=>rfl
 have hK1:∀ (args:Array Value) (w':World),(callFunc 29 args).run Try.prog w'=.ok (.enter 29 args) w':=fun _ _=>by kernel_rfl
 have HK1:=Aside0.mk hK1
 have hK2:∀ (args:Array Value) (w':World),(callFunc 30 args).run Try.prog w'=.ok (.enter 30 args) w':=fun _ _=>by kernel_rfl
 have HK2:=Aside0.mk hK2
 clear hK1 hK2
 go_enter Try.func17,Try.ntmps17
 go_upto_region 1 with (fail)
 go_cut [5] (fun v5 wc=>v5=.int .i64 (frontOf l0 l1)∧Aside0 (SBox w.heap.size wc w.heap.size A0 c0 l0)∧Aside0 (SBox w.heap.size wc (w.heap.size+1) A1 c1 l1)∧Aside0 (Below w.heap.size w wc))
 case first =>
  have hB:Below w.heap.size w ((w.alloc (.cells #[.slice A0 l0.length c0] 22)).alloc (.cells #[.slice A1 l1.length c1] 22)):=below_alloc (below_alloc (Below.refl _ _) _) _
  have hb0:SBox w.heap.size ((w.alloc (.cells #[.slice A0 l0.length c0] 22)).alloc (.cells #[.slice A1 l1.length c1] 22)) w.heap.size A0 c0 l0:=⟨blk_alloc (heap_alloc_new w _) _,Nat.le_refl _,HC0.out,Kd.C_below HR0.out hB⟩
  have hb1:SBox w.heap.size ((w.alloc (.cells #[.slice A0 l0.length c0] 22)).alloc (.cells #[.slice A1 l1.length c1] 22)) (w.heap.size+1) A1 c1 l1:=⟨by have h:=heap_alloc_new (w.alloc (.cells #[.slice A0 l0.length c0] 22)) (.cells #[.slice A1 l1.length c1] 22);simpa using h,by omega,HC1.out,Kd.C_below HR1.out hB⟩
  have HB:=Aside0.mk hB
  have HB0:=Aside0.mk hb0
  have HB1:=Aside0.mk hb1
  clear hB hb0 hb1
  have HF:∀ m,m≤l0.length→m≤l1.length→∀ (j:Nat) (w':World),j<m→Drawn0 ((w.alloc (.cells #[.slice A0 l0.length c0] 22)).alloc (.cells #[.slice A1 l1.length c1] 22)) w'→Calls Try.prog 29 #[.int .i64 j,.pointer (some ⟨w.heap.size,0,none⟩),.pointer (some ⟨w.heap.size+1,0,none⟩)] w' fun e w''=>e=.returned (.bool (same l0 l1 j))∧Drawn0 w' w'':=by
   rintro m hm0 hm1 j w' hj ⟨n,rfl⟩
   have h:=diff_Diff1.calls j ⟨w.heap.size,0,none⟩ ⟨w.heap.size+1,0,none⟩ A0 c0 l0 A1 c1 l1 _ (HB0.out.drewN n).cell.1 (HB1.out.drewN n).cell.1 (HB0.out.drewN n).reads (HB1.out.drewN n).reads (by omega) (by omega)
   rw [same_at] at h
   exact h
  have HF2:=Aside0.mk HF
  clear HF
  have HLC:=Aside0.mk (lead_common l0 l1)
  have k1:=HK1.out
  go_wp2_with (fail)
  ·have hlt:l1.length<l0.length:=by assumption
   have HLE:=Aside0.mk (show leadFrom (same l0 l1) 0 l1.length=frontOf l0 l1 by have h:=HLC.out;rw [Nat.min_eq_right (by omega)] at h;exact h)
   refine (diff_common.calls 29 ⟨w.heap.size,0,none⟩ ⟨w.heap.size+1,0,none⟩ (same l0 l1) l1.length _ (by omega) k1 (HF2.out _ (by omega) (by omega))).mono ?_
   rintro e w1 ⟨rfl,⟨n,rfl⟩⟩
   clear k1
   go_wp2
   go_meet
   exact ⟨by rw [HLE.out],⟨HB0.out.drewN n⟩,⟨HB1.out.drewN n⟩,⟨pw_below_drewN HB.out n⟩⟩
  have hlt:¬ l1.length<l0.length:=by assumption
  have HLE:=Aside0.mk (show leadFrom (same l0 l1) 0 l0.length=frontOf l0 l1 by have h:=HLC.out;rw [Nat.min_eq_left (by omega)] at h;exact h)
  refine (diff_common.calls 29 ⟨w.heap.size,0,none⟩ ⟨w.heap.size+1,0,none⟩ (same l0 l1) l0.length _ (by omega) k1 (HF2.out _ (by omega) (by omega))).mono ?_
  rintro e w1 ⟨rfl,⟨n,rfl⟩⟩
  clear k1
  go_wp2
  go_meet
  exact ⟨by rw [HLE.out],⟨HB0.out.drewN n⟩,⟨HB1.out.drewN n⟩,⟨pw_below_drewN HB.out n⟩⟩
 case rest =>
  obtain ⟨rfl,HB0,HB1,HB⟩:=hcut
  have HLE:=Aside0.mk (common_le l0 l1)
  have hf0:frontOf l0 l1≤l0.length:=HLE.out.1
  have hf1:frontOf l0 l1≤l1.length:=HLE.out.2
  obtain ⟨Ax,hsx,hCx,hcx⟩:=cutFrom A0 c0 l0 (frontOf l0 l1) hf0 HC0.out
  obtain ⟨Ay,hsy,hCy,hcy⟩:=cutFrom A1 c1 l1 (frontOf l0 l1) hf1 HC1.out
  have HX:=Aside0.mk (And.intro (hCx wc HB0.out.reads) hcx)
  have HY:=Aside0.mk (And.intro (hCy wc HB1.out.reads) hcy)
  have HXw:=Aside0.mk (hCx w HR0.out)
  have HYw:=Aside0.mk (hCy w HR1.out)
  clear hCx hCy hcx hcy
  generalize hx:l0.drop (frontOf l0 l1)=x at *
  generalize hy:l1.drop (frontOf l0 l1)=y at *
  have HXE:=Aside0.mk hx
  have HYE:=Aside0.mk hy
  clear hx hy
  have q0:=HB0.out.cell.1
  have q1:=HB1.out.cell.1
  go_upto_region 2 with (fail)
  go_cut [6,7] (fun v6 v7 wd=>∃ p q:Nat,p≠q∧v6=.pointer (some ⟨p,0,none⟩)∧v7=.pointer (some ⟨q,0,none⟩)∧Aside0 (SBox w.heap.size wd p Ax (c0 - frontOf l0 l1) x)∧Aside0 (SBox w.heap.size wd q Ay (c1 - frontOf l0 l1) y)∧Aside0 (Below w.heap.size w wd))
  case first =>
   have m0:∀ o,(wc.alloc o).cell? ⟨w.heap.size,0,none⟩=some (.slice A0 l0.length c0):=fun o=>pw_cell_below (below_alloc (Below.refl _ _) o) q0
   have m1:∀ o,(wc.alloc o).cell? ⟨w.heap.size+1,0,none⟩=some (.slice A1 l1.length c1):=fun o=>pw_cell_below (below_alloc (Below.refl _ _) o) q1
   have m2:∀ o o',((wc.alloc o).alloc o').cell? ⟨w.heap.size,0,none⟩=some (.slice A0 l0.length c0):=fun o o'=>pw_cell_below (below_alloc (below_alloc (Below.refl _ _) o) o') q0
   have m3:∀ o o',((wc.alloc o).alloc o').cell? ⟨w.heap.size+1,0,none⟩=some (.slice A1 l1.length c1):=fun o o'=>pw_cell_below (below_alloc (below_alloc (Below.refl _ _) o) o') q1
   go_region
   all_goals (go_wp2_with (fail);go_meet)
   ·obtain ⟨b1,b2,b3⟩:=two_boxes HB.out HX.out.1 HX.out.2 HY.out.1 HY.out.2
    exact ⟨wc.heap.size,wc.heap.size+1,by omega,rfl,rfl,⟨b1⟩,⟨b2⟩,⟨b3⟩⟩
   obtain ⟨b1,b2,b3⟩:=two_boxes HB.out HY.out.1 HY.out.2 HX.out.1 HX.out.2
   exact ⟨wc.heap.size+1,wc.heap.size,by omega,rfl,rfl,⟨b2⟩,⟨b1⟩,⟨b3⟩⟩
  case rest =>
   clear hsx hsy HX HY q0 q1 HB0 HB1 HB
   obtain ⟨p,q,hpq,rfl,rfl,HB0,HB1,HB⟩:=hcut
   have hx0:x.length≤4398046511104:=by rw [← HXE.out,List.length_drop];omega
   have hy0:y.length≤4398046511104:=by rw [← HYE.out,List.length_drop];omega
   go_upto_region 3 with (fail)
   go_cut [8] (fun v8 we=>v8=.int .i64 (endOf l0 l1)∧Aside0 (SBox w.heap.size we p Ax (c0 - frontOf l0 l1) x)∧Aside0 (SBox w.heap.size we q Ay (c1 - frontOf l0 l1) y)∧Aside0 (Below w.heap.size w we))
   case first =>
    have q0:=HB0.out.cell.1
    have q1:=HB1.out.cell.1
    have HF:∀ m,m≤x.length→m≤y.length→∀ (j:Nat) (w':World),j<m→Drawn0 wc w'→Calls Try.prog 30 #[.int .i64 j,.pointer (some ⟨p,0,none⟩),.pointer (some ⟨q,0,none⟩)] w' fun e w''=>e=.returned (.bool (same x.reverse y.reverse j))∧Drawn0 w' w'':=by
     rintro m hm0 hm1 j w' hj ⟨n,rfl⟩
     have h:=diff_Diff2.calls j ⟨p,0,none⟩ ⟨q,0,none⟩ Ax (c0 - frontOf l0 l1) x Ay (c1 - frontOf l0 l1) y _ (HB0.out.drewN n).cell.1 (HB1.out.drewN n).cell.1 (HB0.out.drewN n).reads (HB1.out.drewN n).reads (by omega) (by omega)
     rw [same_rev x y j (by omega) (by omega)] at h
     exact h
    have HF2:=Aside0.mk HF
    clear HF
    have HLC:=Aside0.mk (lead_common x.reverse y.reverse)
    have HEE:=Aside0.mk (show endOf l0 l1=common x.reverse y.reverse by rw [endOf,HXE.out,HYE.out])
    have k1:=HK2.out
    go_wp2_with (fail)
    ·have hlt:y.length<x.length:=by assumption
     have HLE:=Aside0.mk (show leadFrom (same x.reverse y.reverse) 0 y.length=endOf l0 l1 by have h:=HLC.out;rw [List.length_reverse,List.length_reverse,Nat.min_eq_right (by omega)] at h;rw [HEE.out];exact h)
     refine (diff_common.calls 30 ⟨p,0,none⟩ ⟨q,0,none⟩ (same x.reverse y.reverse) y.length _ (by omega) k1 (HF2.out _ (by omega) (by omega))).mono ?_
     rintro e w1 ⟨rfl,⟨n,rfl⟩⟩
     clear k1
     go_wp2
     go_meet
     exact ⟨by rw [HLE.out],⟨HB0.out.drewN n⟩,⟨HB1.out.drewN n⟩,⟨pw_below_drewN HB.out n⟩⟩
    have hlt:¬ y.length<x.length:=by assumption
    have HLE:=Aside0.mk (show leadFrom (same x.reverse y.reverse) 0 x.length=endOf l0 l1 by have h:=HLC.out;rw [List.length_reverse,List.length_reverse,Nat.min_eq_left (by omega)] at h;rw [HEE.out];exact h)
    refine (diff_common.calls 30 ⟨p,0,none⟩ ⟨q,0,none⟩ (same x.reverse y.reverse) x.length _ (by omega) k1 (HF2.out _ (by omega) (by omega))).mono ?_
    rintro e w1 ⟨rfl,⟨n,rfl⟩⟩
    clear k1
    go_wp2
    go_meet
    exact ⟨by rw [HLE.out],⟨HB0.out.drewN n⟩,⟨HB1.out.drewN n⟩,⟨pw_below_drewN HB.out n⟩⟩
   case rest =>
    clear HB0 HB1 HB
    obtain ⟨rfl,HB0,HB1,HB⟩:=hcut
    have hEE:endOf l0 l1=common x.reverse y.reverse:=by rw [endOf,HXE.out,HYE.out]
    have hCL:=common_le x.reverse y.reverse
    rw [List.length_reverse,List.length_reverse,← hEE] at hCL
    have hex:endOf l0 l1≤x.length:=hCL.1
    have hey:endOf l0 l1≤y.length:=hCL.2
    clear hCL hEE
    obtain ⟨mx,hmx⟩:∃ m:Nat,m=x.length - endOf l0 l1:=⟨_,rfl⟩
    obtain ⟨my,hmy⟩:∃ m:Nat,m=y.length - endOf l0 l1:=⟨_,rfl⟩
    have kx:IntKind.i64.wrap ((x.length:Int) - (endOf l0 l1:Int))=(mx:Int):=by rw [IntWalk.i64_in _ (by omega)];omega
    have ky:IntKind.i64.wrap ((y.length:Int) - (endOf l0 l1:Int))=(my:Int):=by rw [IntWalk.i64_in _ (by omega)];omega
    obtain ⟨hsx,hCx,hcx⟩:=cutTo Ax (c0 - frontOf l0 l1) x mx (by omega) HB0.out.cap
    obtain ⟨hsy,hCy,hcy⟩:=cutTo Ay (c1 - frontOf l0 l1) y my (by omega) HB1.out.cap
    have HXw2:=Aside0.mk (hCx w HXw.out)
    have HYw2:=Aside0.mk (hCy w HYw.out)
    have HCX:=Aside0.mk hcx
    have HCY:=Aside0.mk hcy
    have HXM:=Aside0.mk hmx
    have HYM:=Aside0.mk hmy
    clear hCx hCy hcx hcy hmx hmy HXw HYw hex hey
    generalize hx':x.take mx=x' at *
    generalize hy':y.take my=y' at *
    have HXE2:=Aside0.mk hx'
    have HYE2:=Aside0.mk hy'
    clear hx' hy'
    go_upto_region 4 with (fail)
    go_cut [8] (fun v8 wd=>v8=.int .i64 (endOf l0 l1)∧Aside0 (SBox w.heap.size wd p Ax (c0 - frontOf l0 l1) x')∧Aside0 (SBox w.heap.size wd q Ay (c1 - frontOf l0 l1) y')∧Aside0 (Below w.heap.size w wd))
    case first =>
     have q0:=HB0.out.cell.1
     have q1:=HB1.out.cell.1
     have q2:=HB0.out.cell.2
     have q3:=HB1.out.cell.2
     have q4:∀ u,(wc.setCell ⟨p,0,none⟩ u).cell? ⟨q,0,none⟩=some (.slice Ay y.length (c1 - frontOf l0 l1)):=fun u=>(World.cell?_of_block (Below.heap_setCell wc ⟨p,0,none⟩ u _ (fun h=>hpq h.symm))).trans q1
     have q5:∀ u,(wc.setCell ⟨p,0,none⟩ u).frozen? ⟨q,0,none⟩=false:=fun u=>(World.frozen?_of_block (Below.heap_setCell wc ⟨p,0,none⟩ u _ (fun h=>hpq h.symm))).trans q3
     go_region
     all_goals (go_wp2_with (fail);go_meet)
     obtain ⟨b0,b1,b2⟩:=HB0.out.set2 HB1.out hpq HB.out HXw2.out HCX.out HYw2.out HCY.out
     exact ⟨rfl,⟨b0⟩,⟨b1⟩,⟨b2⟩⟩
    case rest =>
     clear HB0 HB1 HB hsx hsy kx ky HCX HCY HXw2 HYw2
     obtain ⟨rfl,HB0,HB1,HB⟩:=hcut
     have q0:=HB0.out.cell.1
     have q1:=HB1.out.cell.1
     have HBT:=Aside0.mk (show between l0 l1=midEdits (frontOf l0 l1:Int) x' y' by
      rw [between,midOf,HXE.out,HYE.out,← HXM.out,← HYM.out,HXE2.out,HYE2.out])
     have hxl:x'.length≤4398046511104:=by rw [← HXE2.out,List.length_take];omega
     have hyl:y'.length≤4398046511104:=by rw [← HYE2.out,List.length_take];omega
     clear HXE HYE HXE2 HYE2 HXM HYM hx0 hy0
     have hfr:frontOf l0 l1≤4398046511104:=by omega
     clear hf0 hf1
     generalize frontOf l0 l1=fr at *
     generalize endOf l0 l1=en at *
     go_upto_region 5 with (fail)
     go_cut [41] (fun v41 wd=>v41=.bool (decide (x'.length=0∧y'.length=0))∧Aside0 (SBox w.heap.size wd p Ax (c0 - fr) x')∧Aside0 (SBox w.heap.size wd q Ay (c1 - fr) y')∧Aside0 (Below w.heap.size w wd))
     case first =>
      by_cases hx0:x'.length=0
      rotate_left
      ·have g1:((x'.length:Int) == 0)=false:=beq_eq_false_iff_ne.2 (by omega)
       go_wp2
       go_meet
       exact ⟨by rw [decide_eq_false (fun h=>hx0 h.1)],HB0,HB1,HB⟩
      have g1:((x'.length:Int) == 0)=true:=beq_iff_eq.2 (by omega)
      have HX0:=Aside0.mk hx0
      clear hx0
      by_cases hy0:y'.length=0
      ·have g2:((y'.length:Int) == 0)=true:=beq_iff_eq.2 (by omega)
       have HY0:=Aside0.mk hy0
       clear hy0
       go_wp2
       go_meet
       exact ⟨by rw [decide_eq_true (And.intro HX0.out HY0.out)],HB0,HB1,HB⟩
      have g2:((y'.length:Int) == 0)=false:=beq_eq_false_iff_ne.2 (by omega)
      go_wp2
      go_meet
      exact ⟨by rw [decide_eq_false (fun h=>hy0 h.2)],HB0,HB1,HB⟩
     case rest =>
      clear HB0 HB1 HB q0 q1
      obtain ⟨rfl,HB0,HB1,HB⟩:=hcut
      by_cases hxy:x'.length=0∧y'.length=0
      ·have HXY:=Aside0.mk hxy
       rw [decide_eq_true hxy]
       clear hxy
       go_wp2
       go_ret
       refine ⟨_,rfl,?_,HB.out⟩
       rw [HBT.out,midEdits,if_pos ⟨List.eq_nil_of_length_eq_zero HXY.out.1,List.eq_nil_of_length_eq_zero HXY.out.2⟩]
       exact Kd.S_nil _ _ _ _ _
      have HXY:=Aside0.mk hxy
      rw [decide_eq_false hxy]
      clear hxy
      have q0:=HB0.out.cell.1
      have q1:=HB1.out.cell.1
      go_upto_region 7 with (fail)
      go_cut [50] (fun v50 wd=>v50=.bool (decide (x'.length=0∨y'.length=0∨65536<x'.length * y'.length))∧Aside0 (SBox w.heap.size wd p Ax (c0 - fr) x')∧Aside0 (SBox w.heap.size wd q Ay (c1 - fr) y')∧Aside0 (Below w.heap.size w wd))
      case first =>
       by_cases hx0:x'.length=0
       ·have g1:((x'.length:Int) == 0)=true:=beq_iff_eq.2 (by omega)
        have HX0:=Aside0.mk hx0
        clear hx0
        go_quiet (fail)
        go_wp2_with (fail)
        go_meet
        exact ⟨by rw [decide_eq_true (Or.inl HX0.out)],⟨HB0.out.drewN nq⟩,⟨HB1.out.drewN nq⟩,⟨pw_below_drewN HB.out nq⟩⟩
       have g1:((x'.length:Int) == 0)=false:=beq_eq_false_iff_ne.2 (by omega)
       by_cases hy0:y'.length=0
       ·have g2:((y'.length:Int) == 0)=true:=beq_iff_eq.2 (by omega)
        have HY0:=Aside0.mk hy0
        clear hy0
        go_quiet (fail)
        go_wp2_with (fail)
        go_meet
        exact ⟨by rw [decide_eq_true (Or.inr (Or.inl HY0.out))],⟨HB0.out.drewN nq⟩,⟨HB1.out.drewN nq⟩,⟨pw_below_drewN HB.out nq⟩⟩
       have g2:((y'.length:Int) == 0)=false:=beq_eq_false_iff_ne.2 (by omega)
       have g3:(0:Int)<(y'.length:Int):=by omega
       have g4:¬ (y'.length:Int)=0:=by omega
       have g5:¬ (y'=[]):=fun h=>hy0 (by rw [h];rfl)
       obtain ⟨b,hb⟩:∃ b:Bool,b=decide (65536<x'.length * y'.length):=⟨_,rfl⟩
       have g6:decide ((65536:Int) / (y'.length:Int)<(x'.length:Int))=b:=by rw [hb];exact quot_lt _ _ (by omega)
       have HBB:=Aside0.mk hb
       clear hb
       go_quiet (fail)
       go_wp2_with (fail)
       go_meet
       exact ⟨by rw [HBB.out];simp [hx0,hy0],⟨HB0.out.drewN nq⟩,⟨HB1.out.drewN nq⟩,⟨pw_below_drewN HB.out nq⟩⟩
      case rest =>
       clear HB0 HB1 HB q0 q1
       obtain ⟨rfl,HB0,HB1,HB⟩:=hcut
       have q0:=HB0.out.cell.1
       have q1:=HB1.out.cell.1
       by_cases hbig:x'.length=0∨y'.length=0∨65536<x'.length * y'.length
       rotate_left
       ·have HBG:=Aside0.mk hbig
        rw [decide_eq_false hbig]
        clear hbig
        have hx1:x'.length≤65536:=small_l HBG.out
        have hy1:y'.length≤65536:=small_r HBG.out
        obtain ⟨kt,T,hT,hI⟩:=table_ok x' y' hx1 hy1
        have HT:=Aside0.mk hT
        have HI:=Aside0.mk hI
        clear hT hI
        go_wp2_with (go_at_call 32;(with_reducible refine (diff_walk.calls kt (fr:Int) Ax (c0 - fr) x' Ay (c1 - fr) y' T _ HB0.out.reads HB0.out.cap HB1.out.reads HB1.out.cap (by omega) (by omega) hx1 hy1 HT.out HI.out).mono ?_);rintro e w1 ⟨v1,rfl,ho,hb⟩;have HO:=Aside0.mk ho;have HB5:=Aside0.mk hb;clear ho hb)
        go_ret
        refine ⟨_,rfl,?_,HB.out.trans (Below.mono HB5.out HB.out.size)⟩
        rw [HBT.out,midEdits,if_neg (fun h=>HXY.out ⟨by rw [h.1];rfl,by rw [h.2];rfl⟩),if_neg (by
         rintro (h|h|h)
         ·exact HBG.out (.inl (by rw [h];rfl))
         ·exact HBG.out (.inr (.inl (by rw [h];rfl)))
         ·exact HBG.out (.inr (.inr h)))]
        exact Kd.S_lower HO.out HB.out.size
       have HBG:=Aside0.mk hbig
       rw [decide_eq_true hbig]
       clear hbig
       have HCl:=Aside0.mk (show slices_Clone_string_string.f y'=some y' by rw [slices_Clone_string_string.f,if_pos hyl])
       have HB0d:=Aside0.mk HB0.out.drew
       have HB1d:=Aside0.mk HB1.out.drew
       have HBd:=Aside0.mk (below_drew HB.out)
       go_wp2
       -- REGION8
       refine start_ (n:=8) (S:=fun w'=>w'.cell? ⟨p,0,none⟩=some (.slice Ax x'.length (c0 - fr))∧w'.cell? ⟨q,0,none⟩=some (.slice Ay y'.length (c1 - fr))) (ds:=[]) #[false,false,false,false,false,false,false,false] (by kernel_rfl) rfl rfl ⟨q0,q1⟩ (fun hHeld=>?_)
       refine with_tabW diff_Diff.tab8 diff_Diff.bits8 (fun HT_ HW_=>?_)
       generalize wc.drew=w3 at HB0d HB1d HBd hHeld ⊢
       refine pure_ (i:=0) (N:=some 67) (v:=?_) (a':=?_) #[true,false,false,false,false,false,false,false] rfl rfl (any_of HT_.out (by kernel_rfl)) (fun _ _ _ h=>h) (Or.inl ⟨by rfl,?_⟩) ?_ ?_
       rotate_left
       ·intro w'
        go_simp
        with_reducible rfl
       rotate_left
       ·simp only [Act.put,List.setIfInBounds_toArray,List.set_cons_zero,List.set_cons_succ,i64_w,i32_w]
        rfl
       refine take_ (i:=1) (N:=some 68) (v:=?_) (a':=?_) #[true,true,false,false,false,false,false,false] rfl rfl (take_ofW HT_.out HW_.out (by kernel_rfl)) (fun _ _ _ h=>h) (Or.inl ⟨by rfl,?_⟩) hHeld ?_ ?_
       rotate_left
       ·rintro w' ⟨s0,s1⟩
        go_simp
        with_reducible rfl
       rotate_left
       ·simp only [Act.put,List.setIfInBounds_toArray,List.set_cons_zero,List.set_cons_succ,i64_w,i32_w]
        rfl
       refine pure_ (i:=2) (N:=some 69) (v:=?_) (a':=?_) #[true,true,true,false,false,false,false,false] rfl rfl (any_of HT_.out (by kernel_rfl)) (fun _ _ _ h=>h) (Or.inl ⟨by rfl,?_⟩) ?_ ?_
       rotate_left
       ·intro w'
        go_simp
        with_reducible rfl
       rotate_left
       ·simp only [Act.put,List.setIfInBounds_toArray,List.set_cons_zero,List.set_cons_succ,i64_w,i32_w]
        rfl
       refine take_ (i:=3) (N:=some 70) (v:=?_) (a':=?_) #[true,true,true,true,false,false,false,false] rfl rfl (take_ofW HT_.out HW_.out (by kernel_rfl)) (fun _ _ _ h=>h) (Or.inl ⟨by rfl,?_⟩) hHeld ?_ ?_
       rotate_left
       ·rintro w' ⟨s0,s1⟩
        go_simp
        with_reducible rfl
       rotate_left
       ·simp only [Act.put,List.setIfInBounds_toArray,List.set_cons_zero,List.set_cons_succ,i64_w,i32_w]
        rfl
       refine one_ (i:=4) (N:=some 71) #[true,true,true,true,true,false,false,false] rfl rfl (one_of HT_.out (by kernel_rfl)) (by decide) (fun K hK=>?_)
       refine goes_ Try.func31 (by kernel_rfl) rfl #[.slice Ay y'.length (c1 - fr)] (by rfl) rfl rfl (by simp only [List.map_toArray,List.map_cons,List.map_nil];rfl) ?_
       with_reducible refine (slices_Clone_string_string.calls Ay (c1 - fr) y' y' _ HB1d.out.reads HB1d.out.cap HCl.out).mono ?_
       rintro e w5 ⟨v5,rfl,ho,hb⟩
       refine ⟨_,rfl,?_⟩
       have HO:=Aside0.mk ho
       have HB5:=Aside0.mk (HBd.out.trans (Below.mono hb HBd.out.size))
       have s0:=(HB0d.out.below hb).cell.1
       have s1:=(HB1d.out.below hb).cell.1
       clear ho hb
       obtain ⟨Ac,cc,ec⟩:=Kd.R_slice HO.out
       subst ec
       refine hK.out _ _ ⟨s0,s1⟩ (fun hHeld=>?_)
       clear hK K
       refine norm_ (a':=?_) ?_ ?_
       rotate_left
       ·show Act.put _ (some 71) _=_
        simp only [Act.put,List.setIfInBounds_toArray,List.set_cons_zero,List.set_cons_succ,i64_w,i32_w]
        rfl
       refine pure_ (i:=5) (N:=some 72) (v:=?_) (a':=?_) #[true,true,true,true,true,true,false,false] rfl rfl (any_of HT_.out (by kernel_rfl)) (fun _ _ _ h=>h) (Or.inl ⟨by rfl,?_⟩) ?_ ?_
       rotate_left
       ·intro w'
        go_simp
        with_reducible rfl
       rotate_left
       ·simp only [Act.put,List.setIfInBounds_toArray,List.set_cons_zero,List.set_cons_succ,i64_w,i32_w]
        rfl
       refine one_ (i:=6) (N:=some 73) #[true,true,true,true,true,true,true,false] rfl rfl (one_of HT_.out (by kernel_rfl)) (by decide) (fun K hK=>?_)
       refine value_ (w1:=?_) (v:=?_) (by rfl) rfl ?_ ?_
       rotate_left 2
       ·go_simp
        constructor
        ·rfl
        rfl
       have s2:=pw_cell_below (below_alloc (Below.refl _ _) (.cells #[.int .i64 (fr:Int),.int .i64 (x'.length:Int),.slice Ac y'.length cc] 52)) s0
       have s3:=pw_cell_below (below_alloc (Below.refl _ _) (.cells #[.int .i64 (fr:Int),.int .i64 (x'.length:Int),.slice Ac y'.length cc] 52)) s1
       refine hK.out _ _ ⟨s2,s3⟩ (fun hHeld=>?_)
       clear hK K
       refine norm_ (a':=?_) ?_ ?_
       rotate_left
       ·show Act.put _ (some 73) _=_
        simp only [Act.put,List.setIfInBounds_toArray,List.set_cons_zero,List.set_cons_succ,i64_w,i32_w]
        rfl
       refine pure_ (i:=7) (N:=some 4) (v:=?_) (a':=?_) #[true,true,true,true,true,true,true,true] rfl rfl (any_of HT_.out (by kernel_rfl)) (fun _ _ _ h=>h) (Or.inl ⟨by rfl,?_⟩) ?_ ?_
       rotate_left
       ·intro w'
        go_simp
        with_reducible rfl
       rotate_left
       ·simp only [Act.put,List.setIfInBounds_toArray,List.set_cons_zero,List.set_cons_succ,i64_w,i32_w]
        rfl
       refine done_ (done_of HT_.out (by kernel_rfl)) ?_
       -- REGION8END
       go_wp2
       go_ret
       refine ⟨_,rfl,?_,below_alloc HB5.out _⟩
       have HB5s:=HB5.out.size
       rw [HBT.out,midEdits,if_neg (fun h=>HXY.out ⟨by rw [h.1];rfl,by rw [h.2];rfl⟩),if_pos (by
        rcases HBG.out with h|h|h
        ·exact .inl (List.eq_nil_of_length_eq_zero h)
        ·exact .inr (.inl (List.eq_nil_of_length_eq_zero h))
        ·exact .inr (.inr h))]
       exact own_single (Kd.R_lower HO.out HBd.out.size) HB5s
end Go.Proofs.Ytnmphfelebkaiaa.Pr
-- shrunk
-- written by a program of this session's (a turned copy of the kit's printer); Lean checks it
namespace Go.Proofs.Ytnmphfelebkaiaa.Pr
open Go.RowKit Go.Proofs.YtnmphfelebkaiaaW.PrintWords Go.Proofs.YtnmphfelebkaiaaW.PrintLast Go.Proofs.YtnmphfelebkaiaaW.PrintMore
attribute [local go_sem] max2_int min2_int max_two min_two max_three min_three max_four min_four   -- for this text's walks alone

attribute [local go_sem high] eqA32


def slices_Equal_string_string.l0:Nat→List ByteArray→List ByteArray→Int→Int→Option (Bool)
 | 0,_,_,_,_=>none
 | k+1,x0,x1,x12,x13=>if x13<x12 then (if 0≤x13 then (if x13<(x0.length:Int) then (if x13<(x1.length:Int) then (if (rdOf ByteArray.empty x0 x13).toList=(rdOf ByteArray.empty x1 x13).toList then (slices_Equal_string_string.l0 k x0 x1 x12 (wrap64 (x13+1))) else (some false)) else (none)) else (none)) else (none)) else (some true)
def slices_Equal_string_string.f (k:Nat) (l0:List ByteArray) (l1:List ByteArray):Option (Bool):=if (l0.length:Int)=(l1.length:Int) then (slices_Equal_string_string.l0 k l0 l1 (l0.length:Int) 0) else (some false)
set_option maxHeartbeats 8000000 in
set_option maxRecDepth 100000 in
theorem slices_Equal_string_string.calls (k:Nat) (A0:Option Addr) (c0:Nat) (l0:List ByteArray) (A1:Option Addr) (c1:Nat) (l1:List ByteArray) (r:Bool) (w:World) (hr0:Kd.C Kd.string w A0 l0.length l0) (hc0:l0.length≤c0) (hr1:Kd.C Kd.string w A1 l1.length l1) (hc1:l1.length≤c1) (h:slices_Equal_string_string.f k l0 l1=some r) :
  Calls Try.prog 33 #[.slice A0 l0.length c0,.slice A1 l1.length c1] w fun e w'=>e=.returned (.bool r)∧Drawn0 w w':=by
 have HR0:=Aside0.mk hr0
 have HC0:=Aside0.mk hc0
 clear hr0 hc0
 have HR1:=Aside0.mk hr1
 have HC1:=Aside0.mk hc1
 clear hr1 hc1
 have H:(if (l0.length:Int)=(l1.length:Int) then (slices_Equal_string_string.l0 k l0 l1 (l0.length:Int) 0) else (some false))=some r:=h
 clear h
 by_cases c3:(l0.length:Int)=(l1.length:Int)
 rotate_left
 ·rw [if_neg c3] at H
  have c3b0:((l0.length:Int) == (l1.length:Int))=false:=beq_eq_false_iff_ne.mpr c3
  have c3b1:((l0.length:Int) != (l1.length:Int))=true:=bne_iff_ne.mpr c3
  have c3b2:(l0.length == l1.length)=false:=by first|simpa using c3|(simp at c3 ⊢;omega)
  obtain rfl:=Option.some.inj H
  go_enter Try.func33,Try.ntmps33
  go_wp2
  repeat (go_quiet (fail);try go_wp2)
  go_ret
  exact ⟨by first|rfl|(simp;done)|(simp [*];done),by repeat (first|exact Drawn0.refl _|apply Drawn0.step)⟩



 rw [if_pos c3] at H
 have c3b0:((l0.length:Int) == (l1.length:Int))=true:=beq_iff_eq.mpr c3
 have c3b1:((l0.length:Int) != (l1.length:Int))=false:=bne_eq_false_iff_eq.mpr c3
 have c3b2:(l0.length == l1.length)=true:=by first|simpa using c3|(simp at c3 ⊢;omega)
 clear c3
 have H':=Aside0.mk H
 clear H
 go_enter Try.func33,Try.ntmps33
 go_wp2
 repeat (go_quiet (fail);try go_wp2)
 go_loopg [13] k (fun kq v13 w'=>∃ (x13_1:Int),v13=.int .i64 x13_1∧Aside0 (slices_Equal_string_string.l0 kq l0 l1 (l0.length:Int) x13_1=some r)∧Aside0 (kq≤k)∧Drawn0 w w')
 case atStart=>exact ⟨(0),(by first|rfl|(simp;done)|(simp [*];done)),H',⟨Nat.le_refl _⟩,by repeat (first|exact Drawn0.refl _|apply Drawn0.step)⟩
 case round =>
  clear H'
  try clear c1
  try clear p2
  try clear c3
  try clear c3b0
  try clear c3b1
  try clear c3b2
  obtain ⟨x13_1,rfl,HA,HK1,⟨m1,rfl⟩⟩:=hrel
  cases gk with
  | zero=>exact absurd HA.out (by simp [slices_Equal_string_string.l0])
  | succ k1 =>
   have H:=HA.out
   clear HA
   simp only [slices_Equal_string_string.l0] at H
   by_cases c4:x13_1<(l0.length:Int)
   rotate_left
   ·rw [if_neg c4] at H
    have c4b0:decide (x13_1<(l0.length:Int))=false:=decide_eq_false c4
    clear c4
    obtain rfl:=Option.some.inj H
    go_wp2
    repeat (go_quiet (fail);try go_wp2)
    go_ret
    exact ⟨by first|rfl|(simp;done)|(simp [*];done),by repeat (first|exact Drawn0.refl _|apply Drawn0.step)⟩
   rw [if_pos c4] at H
   have c4b0:decide (x13_1<(l0.length:Int))=true:=decide_eq_true c4
   clear c4
   by_cases c5:0≤x13_1
   rotate_left
   ·rw [if_neg c5] at H
    exact absurd H (by simp)
   rw [if_pos c5] at H
   have c5b0:decide (0≤x13_1)=true:=decide_eq_true c5
   clear c5
   by_cases c6:x13_1<(l0.length:Int)
   rotate_left
   ·rw [if_neg c6] at H
    exact absurd H (by simp)
   rw [if_pos c6] at H
   have c6b0:decide (x13_1<(l0.length:Int))=true:=decide_eq_true c6
   clear c6
   by_cases c7:x13_1<(l1.length:Int)
   rotate_left
   ·rw [if_neg c7] at H
    exact absurd H (by simp)
   rw [if_pos c7] at H
   have c7b0:decide (x13_1<(l1.length:Int))=true:=decide_eq_true c7
   clear c7
   by_cases c8:(rdOf ByteArray.empty l0 x13_1).toList=(rdOf ByteArray.empty l1 x13_1).toList
   rotate_left
   ·rw [if_neg c8] at H
    have c8b0:((rdOf ByteArray.empty l0 x13_1).toList == (rdOf ByteArray.empty l1 x13_1).toList)=false:=beq_eq_false_iff_ne.mpr c8
    have c8b1:((rdOf ByteArray.empty l0 x13_1).toList != (rdOf ByteArray.empty l1 x13_1).toList)=true:=bne_iff_ne.mpr c8
    obtain rfl:=Option.some.inj H
    have p101:0≤(x13_1:Int):=of_decide_eq_true (by first|(with_reducible assumption)|assumption)
    have q101:x13_1<(l0.length:Int):=of_decide_eq_true (by first|(with_reducible assumption)|assumption)
    obtain ⟨ad101,e101,hx101_0⟩:=Kd.at_string HR0.out x13_1 p101 q101
    cases e101
    replace p101:=eq_true p101
    replace q101:=eq_true q101
    have p102:0≤(x13_1:Int):=of_decide_eq_true (by first|(with_reducible assumption)|assumption)
    have q102:x13_1<(l1.length:Int):=of_decide_eq_true (by first|(with_reducible assumption)|assumption)
    obtain ⟨ad102,e102,hx102_0⟩:=Kd.at_string HR1.out x13_1 p102 q102
    cases e102
    replace p102:=eq_true p102
    replace q102:=eq_true q102
    go_wp2
    repeat (go_quiet (fail);try go_wp2)
    go_ret
    exact ⟨by first|rfl|(simp;done)|(simp [*];done),by repeat (first|exact Drawn0.refl _|apply Drawn0.step)⟩
   rw [if_pos c8] at H
   have c8b0:((rdOf ByteArray.empty l0 x13_1).toList == (rdOf ByteArray.empty l1 x13_1).toList)=true:=beq_iff_eq.mpr c8
   have c8b1:((rdOf ByteArray.empty l0 x13_1).toList != (rdOf ByteArray.empty l1 x13_1).toList)=false:=bne_eq_false_iff_eq.mpr c8
   clear c8
   have H':=Aside0.mk H
   clear H
   have p101:0≤(x13_1:Int):=of_decide_eq_true (by first|(with_reducible assumption)|assumption)
   have q101:x13_1<(l0.length:Int):=of_decide_eq_true (by first|(with_reducible assumption)|assumption)
   obtain ⟨ad101,e101,hx101_0⟩:=Kd.at_string HR0.out x13_1 p101 q101
   cases e101
   replace p101:=eq_true p101
   replace q101:=eq_true q101
   have p102:0≤(x13_1:Int):=of_decide_eq_true (by first|(with_reducible assumption)|assumption)
   have q102:x13_1<(l1.length:Int):=of_decide_eq_true (by first|(with_reducible assumption)|assumption)
   obtain ⟨ad102,e102,hx102_0⟩:=Kd.at_string HR1.out x13_1 p102 q102
   cases e102
   replace p102:=eq_true p102
   replace q102:=eq_true q102
   go_wp2
   repeat (go_quiet (fail);try go_wp2)
   go_roundg k1
   case measure=>have:=HK1.out;omega
   case rel=>exact ⟨(wrap64 (x13_1+1)),(by first|rfl|(simp;done)|(simp [*];done)),H',⟨by have:=HK1.out;omega⟩,by repeat (first|exact Drawn0.refl _|apply Drawn0.step)⟩
end Go.Proofs.Ytnmphfelebkaiaa.Pr
-- shrunk
/-
align's small functions, walked by hand: end, behind, next, cut, kind; a cluster's take.
-/
namespace Go.Proofs.Ytnmphfelebkaiaa.Pr
open Go.RowKit Go.Proofs.YtnmphfelebkaiaaW.PrintWords Go.Proofs.YtnmphfelebkaiaaW.PrintLast Go.Proofs.YtnmphfelebkaiaaW.PrintMore
theorem end_calls (x y:Int) (v:Value) (w:World) (h0:-4611686018427387904≤x∧x<4611686018427387904 ∧ -4611686018427387904≤y∧y<4611686018427387904) (hv:v.oneCell'=true) :
  Calls Try.prog 36 #[.agg #[.int .i64 x,.int .i64 y,v]] w fun e w'=>e=.returned (.int .i64 (x+y))∧Below w.heap.size w w':=by
 have kx:IntKind.i64.wrap (x+y)=x+y:=IntWalk.i64_in _ (by omega)
 have hu:=Try.underlying52
 go_enter Try.func36,Try.ntmps36
 go_wp2
 go_ret
 exact ⟨rfl,below_alloc (Below.refl _ _) _⟩
theorem grown_drew (W:World) (row:Option Nat):W.grownBy W.drew row:=⟨rfl,rfl,rfl,Nat.le_refl _,fun _ _ _=>rfl⟩
theorem blk_new2 (w:World) (a o:Obj):((w.alloc a).alloc o).heap[w.heap.size+1]?=some o:=by
 have:=blk_new (w.alloc a) o
 rwa [World.size_alloc] at this
theorem blk_new3 (w:World) (a b o:Obj):(((w.alloc a).alloc b).alloc o).heap[w.heap.size+1+1]?=some o:=by
 have:=blk_new ((w.alloc a).alloc b) o
 rwa [World.size_alloc,World.size_alloc] at this
theorem behind_calls (x y m:Int) (w:World) (h0:-4611686018427387904≤x∧x<4611686018427387904 ∧ -4611686018427387904≤y∧y<4611686018427387904) :
  Calls Try.prog 25 #[.agg #[.int .i64 x,.int .i64 y],.int .i64 m] w fun e w'=>e=.returned (.agg #[.int .i64 (x+y),.int .i64 m])∧Below w.heap.size w w':=by
 have kx:IntKind.i64.wrap (x+y)=x+y:=IntWalk.i64_in _ (by omega)
 have hu:=Try.underlying30
 go_enter Try.func25,Try.ntmps25
 go_wp2
 refine bodyPost_ret (results_cell_row rfl _ _ (w.heap.size+1) 30 #[.int .i64 (x+y),.int .i64 m] (0,0) _ rfl (blk_new2 _ _ _) Try.underlying30 rfl (by kernel_rfl)) rfl ?_
 exact ⟨rfl,below_alloc (below_alloc (Below.refl _ _) _) _⟩
theorem cutMidA (A:Option Addr) (c:Nat) (xs:List ByteArray) (lo n:Nat) (h2:lo+n≤xs.length) (hc:xs.length≤c) :
  ∃ A':Option Addr,(∀ W:World,(Instr.slice 22 (.slice A xs.length c) (some (.int .i64 (lo:Int))) (some (.int .i64 ((lo+n:Nat):Int))) none).run Try.prog W=.ok (.slice A' ((xs.drop lo).take n).length (c - lo)) W) ∧
   (∀ w:World,Kd.C Kd.string w A xs.length xs→Kd.C Kd.string w A' ((xs.drop lo).take n).length ((xs.drop lo).take n))∧((xs.drop lo).take n).length≤c - lo:=by
 obtain ⟨i0,hi0,hz⟩:=Option.map_eq_some_iff.1 ginfoStr
 simp only [Prod.mk.injEq] at hz
 refine ⟨_,fun W=>?_,fun w h=>Kd.C_take (Kd.C_drop (c:=c) h (by omega) hc) (by rw [List.length_drop];omega),by rw [List.length_take,List.length_drop];omega⟩
 have h:=cut_mid (P:=Try.prog) 22 9 .i64 .i64 Try.underlying22 hi0 1 hz.2.1 A xs.length c (lo:Int) ((lo+n:Nat):Int) (Int.natCast_nonneg _) (by omega) (by omega) hc W
 rw [Int.toNat_natCast,Int.toNat_natCast] at h
 rw [h,List.length_take,List.length_drop,Nat.min_eq_left (by omega),Nat.add_sub_cancel_left]
 rfl
theorem cut_calls (A:Option Addr) (c:Nat) (l:List ByteArray) (lo n:Nat) (w:World) (hm:l.length≤9223372036854775807) (hc:l.length≤c) (h1:lo+n≤l.length) :
  Calls Try.prog 19 #[.slice A l.length c,.agg #[.int .i64 (lo:Int),.int .i64 (n:Int)]] w fun e w'=>(∃ A',e=.returned (.slice A' ((l.drop lo).take n).length (c - lo))∧(∀ W,Kd.C Kd.string W A l.length l→Kd.C Kd.string W A' ((l.drop lo).take n).length ((l.drop lo).take n))∧((l.drop lo).take n).length≤c - lo)∧Below w.heap.size w w':=by
 have kx:IntKind.i64.wrap ((lo:Int)+(n:Int))=((lo+n:Nat):Int):=by rw [IntWalk.i64_in _ (by omega)];omega
 have hu:=Try.underlying30
 obtain ⟨A',hs1,hC1,hl1⟩:=cutMidA A c l lo n h1 hc
 obtain ⟨y,hy⟩:∃ y,y=(l.drop lo).take n:=⟨_,rfl⟩
 rw [← hy] at hs1 hC1 hl1 ⊢
 obtain ⟨z,hz⟩:∃ z:Nat,z=lo+n:=⟨_,rfl⟩
 rw [← hz] at hs1 kx
 have HC1:=Aside0.mk hC1
 have HL1:=Aside0.mk hl1
 clear hC1 hl1 hm hc h1 hy hz
 go_enter Try.func19,Try.ntmps19
 go_wp2
 go_ret
 exact ⟨⟨A',rfl,HC1.out,HL1.out⟩,below_alloc (Below.refl _ _) _⟩
theorem kind_calls (f t m0 m1:Int) (h0 h1:Bool) (A0:Option Addr) (c0:Nat) (l0:List ByteArray) (A1:Option Addr) (c1:Nat) (l1:List ByteArray) (w:World) (hr0:Kd.C Kd.string w A0 l0.length l0) (hc0:l0.length≤c0) (hr1:Kd.C Kd.string w A1 l1.length l1) (hc1:l1.length≤c1) (k:Nat) (he:slices_Equal_string_string.f k l0 l1=some (decide (l0=l1))) :
  Calls Try.prog 18 #[.agg #[.int .i64 f,.int .i64 t,.int .i64 m0,.int .i64 m1,.bool h0,.bool h1],.slice A0 l0.length c0,.slice A1 l1.length c1] w fun e w'=>e=.returned (.int .i64 (if h1=false then 1 else if h0=false then 2 else if l0=l1 then 3 else 4))∧Below w.heap.size w w':=by
 have hu:=Try.underlying46
 have HR0:=Aside0.mk hr0
 have HR1:=Aside0.mk hr1
 have HE:=Aside0.mk he
 clear hr0 hr1 he
 cases h1 with
 | false =>
  go_enter Try.func18,Try.ntmps18
  go_wp2
  go_ret
  exact ⟨rfl,below_alloc (Below.refl _ _) _⟩
 | true =>
  cases h0 with
  | false =>
   go_enter Try.func18,Try.ntmps18
   go_wp2
   go_ret
   exact ⟨rfl,below_alloc (Below.refl _ _) _⟩
  | true =>
   by_cases e:l0=l1
   ·rw [decide_eq_true e] at HE
    simp only [if_pos e,Bool.true_eq_false,if_false]
    clear e
    go_enter Try.func18,Try.ntmps18
    go_wp2_with (go_at_call 33;(with_reducible refine (slices_Equal_string_string.calls k _ _ l0 _ _ l1 true _ ?side1 ?side2 ?side3 ?side4 HE.out).mono ?_);(case side1=>exact Kd.C_below HR0.out (below_alloc (Below.refl _ _) _));(case side2=>exact hc0);(case side3=>exact Kd.C_below HR1.out (below_alloc (Below.refl _ _) _));(case side4=>exact hc1);rintro e w' ⟨rfl,⟨nd,rfl⟩⟩)
    go_ret
    exact ⟨rfl,pw_below_drewN (below_alloc (Below.refl _ _) _) _⟩
   rw [decide_eq_false e] at HE
   simp only [if_neg e,Bool.true_eq_false,if_false]
   clear e
   go_enter Try.func18,Try.ntmps18
   go_wp2_with (go_at_call 33;(with_reducible refine (slices_Equal_string_string.calls k _ _ l0 _ _ l1 false _ ?side1 ?side2 ?side3 ?side4 HE.out).mono ?_);(case side1=>exact Kd.C_below HR0.out (below_alloc (Below.refl _ _) _));(case side2=>exact hc0);(case side3=>exact Kd.C_below HR1.out (below_alloc (Below.refl _ _) _));(case side4=>exact hc1);rintro e w' ⟨rfl,⟨nd,rfl⟩⟩)
   go_ret
   exact ⟨rfl,pw_below_drewN (below_alloc (Below.refl _ _) _) _⟩
end Go.Proofs.Ytnmphfelebkaiaa.Pr
-- shrunk
