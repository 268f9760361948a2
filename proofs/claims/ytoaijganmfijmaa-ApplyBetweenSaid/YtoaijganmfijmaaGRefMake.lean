/-
grapevineref05.Make's contract: it answers what plain Lean says (makeR), of edits that are right, with at most a thousand lines around.
-/
import Derived.Outline
import Derived.Deep.DeepMust
import Derived.IntWalk
import Derived.RegionTactic
import Derived.BigRegion
import Derived.Test.YtoaijganmfijmaaK3
import Derived.Test.YtoaijganmfijmaaK4
set_option linter.unusedVariables false
set_option linter.unusedSimpArgs false
namespace Go.Proofs.Ytoaijganmfijmaa.Pr
open Go.RowKit Go.Proofs.YtoaijganmfijmaaW.PrintWords Go.Proofs.YtoaijganmfijmaaW.PrintLast Go.Proofs.YtoaijganmfijmaaW.PrintMore
def SmallM (a:List ByteArray) (l:List Ed):Prop:=a.length≤1048576∧l.length≤1048576∧insE l≤1048576∧(∀ s ∈ a,s.size≤4611686018427387904)∧(∀ e ∈ l,∀ s ∈ e.f2,s.size≤4611686018427387904)
instance (a:List ByteArray) (l:List Ed):Decidable (SmallM a l):=by unfold SmallM;infer_instance
def r05_Make.f (l0:List ByteArray) (l1:List Ed) (a2:Int):Option (List Hk × Int) :=
 if SmallM l0 l1 then some (if okFrom 0 l0.length l1=true∧0≤a2∧a2≤1000 then (makeR l0 a2 none [] 0 0 l1,0) else ([],1)) else none
structure MRel (base:Nat) (w:World) (a:List ByteArray) (l:List Ed) (ar:Int) (fin:List Hk) (v9:Value) (i t:Nat) (more:Int) (out:List Hk) (wr:World):Prop where
 hi:i≤l.length
 goes:makeR a ar (if i=0 then none else some (l.getD (i - 1) ⟨0,0,[]⟩)) out t more (l.drop i)=fin
 ne:0<i→out≠[]
 len:out.length≤i
 own:Kd.S k41 41 wr base (fun _=>True) v9 out
 tb:t≤a.length
 near:∀ (h:i<l.length),0<i→farE ar (some (l.getD (i - 1) ⟨0,0,[]⟩)) l[i]=false→(t:Int)≤l[i].f0
 lines:0<i→(hkLast out).f4.length≤t+insE (l.take i)
 moreb:more=diffE (l.take i)
 bel:Below w.heap.size w wr
theorem MRel.drewN {base:Nat} {w:World} {a:List ByteArray} {l:List Ed} {ar:Int} {fin:List Hk} {v9:Value} {i t:Nat} {more:Int} {out:List Hk} {wr:World} (h:MRel base w a l ar fin v9 i t more out wr) (n:Nat):MRel base w a l ar fin v9 i t more out (wr.drewN n) :=
 ⟨h.hi,h.goes,h.ne,h.len,Kd.S_drewN h.own n,h.tb,h.near,h.lines,h.moreb,pw_below_drewN h.bel n⟩
def gref_Make17.T17:Bool × List (List Nat × List Nat):=(true,[([],[]),([0],[0]),([],[]),([],[]),([2,3],[2,3]),([4],[4]),([5],[5]),([6],[6]),([1,7],[1,7]),([0,1,2,3,4,5,6,7,8],[]),([9,8,8,0,1,2,3,4,5,6,7,8],[8,9])])
def gref_Make17.B17:List Nat:=[0,1,0,0,12,28,60,124,255,511,1023]
theorem gref_Make17.tab17:rtab .any (opsOf Try.f21 17)=gref_Make17.T17:=by kernel_rfl
theorem gref_Make17.bits17:waitsOk gref_Make17.T17.2 gref_Make17.B17=true:=by kernel_rfl
def gref_Make22.T22:Bool × List (List Nat × List Nat):=(true,[([],[]),([0],[0]),([],[]),([],[]),([2,3],[2,3]),([4],[4]),([5],[5]),([6],[6]),([1,7],[1,7]),([0,1,2,3,4,5,6,7,8],[]),([9,8,8,0,1,2,3,4,5,6,7,8],[8,9])])
def gref_Make22.B22:List Nat:=[0,1,0,0,12,28,60,124,255,511,1023]
theorem gref_Make22.tab22:rtab .any (opsOf Try.f21 22)=gref_Make22.T22:=by kernel_rfl
theorem gref_Make22.bits22:waitsOk gref_Make22.T22.2 gref_Make22.B22=true:=by kernel_rfl
def gref_Make27.T27:Bool × List (List Nat × List Nat):=(true,[([],[]),([0],[0]),([],[]),([],[]),([2,3],[2,3]),([4],[4]),([5],[5]),([],[]),([6,7],[6,7]),([8],[8]),([9],[9]),([10],[10]),([1,11],[1,11]),([0,1,2,3,4,5,6,7,8,9,10,11,12],[]),([13,12,12,0,1,2,3,4,5,6,7,8,9,10,11,12],[12,13])])
def gref_Make27.B27:List Nat:=[0,1,0,0,12,28,60,0,252,508,1020,2044,4095,8191,16383]
theorem gref_Make27.tab27:rtab .any (opsOf Try.f21 27)=gref_Make27.T27:=by kernel_rfl
theorem gref_Make27.bits27:waitsOk gref_Make27.T27.2 gref_Make27.B27=true:=by kernel_rfl
def gref_Make35.T35:Bool × List (List Nat × List Nat):=(true,[([],[]),([0],[0]),([],[]),([],[]),([2,3],[2,3]),([4],[4]),([5],[5]),([6],[6]),([1,7],[1,7]),([0,1,2,3,4,5,6,7,8],[]),([9,8,8,0,1,2,3,4,5,6,7,8],[8,9])])
def gref_Make35.B35:List Nat:=[0,1,0,0,12,28,60,124,255,511,1023]
theorem gref_Make35.tab35:rtab .any (opsOf Try.f21 35)=gref_Make35.T35:=by kernel_rfl
theorem gref_Make35.bits35:waitsOk gref_Make35.T35.2 gref_Make35.B35=true:=by kernel_rfl
attribute [local go_sem] max2_int min2_int max_two min_two max_three min_three max_four min_four
theorem insE_take:∀ (l:List Ed) (i:Nat),insE (l.take i)≤insE l
 | [],i=>by simp [insE]
 | e :: l,0=>by simp [insE]
 | e :: l,i+1=>by have:=insE_take l i;simp only [List.take_succ_cons,insE];omega
theorem diffE_bd {many:Int}:∀ (l:List Ed) (fr:Int) (i:Nat),fr≤many+1→okFrom fr many l=true → -(many+1 - fr)≤diffE (l.take i)∧diffE (l.take i)≤insE l
 | [],fr,i,hf,h=>by simp [diffE];omega
 | e :: l,fr,0,hf,h=>by simp [diffE];omega
 | e :: l,fr,i+1,hf,h=>by
  obtain ⟨c1,c2,c3,c4,c5,h'⟩:=okFrom_cons h
  have:=diffE_bd l (e.f0+e.f1+1) i (by omega) h'
  simp only [List.take_succ_cons,diffE,insE]
  omega
theorem okFrom_next {many:Int}:∀ (l:List Ed) (fr:Int) (i:Nat) (hi:i+1<l.length),okFrom fr many l=true→l[i].f0+l[i].f1+1≤l[i+1].f0
 | [],fr,i,hi,h=>absurd hi (by simp)
 | e :: l,fr,i,hi,h=>by
  obtain ⟨c1,c2,c3,c4,c5,h'⟩:=okFrom_cons h
  cases i with
  | zero =>
   cases l with
   | nil=>simp at hi
   | cons q l=>obtain ⟨d1,_⟩:=okFrom_cons h';exact d1
  | succ i=>exact okFrom_next l _ i (by simpa using hi) h'
structure MEd (a:List ByteArray) (l:List Ed) (i:Nat) (e:Ed):Prop where
 h0:0≤e.f0
 h1:0≤e.f1
 h2:e.f0+e.f1≤a.length
 h3:e.f2.length≤1048576
 h4:∀ s ∈ e.f2,s.size≤4611686018427387904
 tk:insE (l.take (i+1))=insE (l.take i)+e.f2.length
 td:diffE (l.take (i+1))=diffE (l.take i)+((e.f2.length:Int) - e.f1)
 dr:l.drop i=e :: l.drop (i+1)
 at_:rd_T53 l (i:Int)=e
theorem med {a:List ByteArray} {l:List Ed} (hs:SmallM a l) (ho:okFrom 0 a.length l=true) (i:Nat) (hi:i<l.length):MEd a l i l[i]:=by
 have h:=okFrom_each l 0 ho l[i] (List.getElem_mem hi)
 have ht:l.take (i+1)=l.take i++[l[i]]:=List.take_succ_eq_append_getElem hi
 have h1:insE (l.take (i+1))=insE (l.take i)+l[i].f2.length:=by rw [ht,insE_app];simp [insE]
 have h2:=insE_take l (i+1)
 refine ⟨h.1,h.2.1,h.2.2,?_,hs.2.2.2.2 _ (List.getElem_mem hi),h1,?_,List.drop_eq_getElem_cons hi,rdE_at hi⟩
 ·have:=hs.2.2.1;omega
 rw [ht,diffE_app];simp [diffE]
theorem far_zero (ar:Int) (e:Ed):farE ar none e=true:=rfl
theorem ginfoHkM:(Try.prog.info? 41).map (fun i=>(i.zero,i.size,i.bytes))=some (some (.agg #[(.int .i64 0),(.int .i64 0),(.int .i64 0),(.int .i64 0),(.slice none 0 0)]),5,56):=by kernel_rfl
structure MMid (base:Nat) (w:World) (v9:Value) (out:List Hk) (wr:World):Prop where
 own:Kd.S k41 41 wr base (fun _=>True) v9 out
 bel:Below base w wr
theorem openR_ne (a2:Int) (pv:Option Ed) (out:List Hk) (more:Int) (e:Ed) (h:pv=none∨out≠[]):openR a2 pv out more e≠[]:=by
 unfold openR
 split
 ·simp
 rename_i hf
 rcases h with rfl|h
 ·exact absurd (far_zero a2 e) hf
 exact h
theorem openR_len (a2:Int) (pv:Option Ed) (out:List Hk) (more:Int) (e:Ed):(openR a2 pv out more e).length≤out.length+1:=by
 unfold openR;split<;>simp
theorem at_textM {w:World} {A:Option Addr} {xs:List ByteArray} (h:Kd.C Kd.string w A xs.length xs) (i:Nat) (hi:i<xs.length):∃ ad,A=some ad∧w.cell? (ad.add i)=some (.string xs[i]):=by
 obtain ⟨ad,e,hc⟩:=h.2.2 (by omega)
 obtain ⟨c,_,rfl,h3⟩:=hc i (xs[i]) (List.getElem?_eq_getElem hi)
 have h4:=h3 0 _ rfl
 rw [show Kd.string.sz=1 from rfl,Nat.mul_one,Nat.add_zero] at h4
 exact ⟨ad,e,h4⟩
theorem set_fiveM {W:World} {g:Nat} {v0 v1 v2 v3 v4 u0 u1 u2 u3 u4:Value} (h:W.heap[g]?=some (.cells #[v0,v1,v2,v3,v4] 41 (0,0))) :
  (((((W.setCell ⟨g,0,none⟩ u0).setCell ⟨g,1,none⟩ u1).setCell ⟨g,2,none⟩ u2).setCell ⟨g,3,none⟩ u3).setCell ⟨g,4,none⟩ u4).heap[g]?=some (.cells #[u0,u1,u2,u3,u4] 41 (0,0)) :=
 blk_put (blk_put (blk_put (blk_put (blk_put h 0 u0 rfl) 1 u1 rfl) 2 u2 rfl) 3 u3 rfl) 4 u4 rfl
theorem below_fiveM {B:Nat} {w W:World} {g:Nat} {u0 u1 u2 u3 u4:Value} (h:Below B w W) (hg:B≤g) :
  Below B w (((((W.setCell ⟨g,0,none⟩ u0).setCell ⟨g,1,none⟩ u1).setCell ⟨g,2,none⟩ u2).setCell ⟨g,3,none⟩ u3).setCell ⟨g,4,none⟩ u4) :=
 ((((h.setCell (p:=⟨g,0,none⟩) hg _).setCell (p:=⟨g,1,none⟩) hg _).setCell (p:=⟨g,2,none⟩) hg _).setCell (p:=⟨g,3,none⟩) hg _).setCell (p:=⟨g,4,none⟩) hg _
theorem sgs_snoc (c:UInt8) (l:List ByteArray) (s:ByteArray):sgs c (l++[s])=sgs c l++[sg c s]:=by simp [sgs]
theorem drop_take_snoc (l:List ByteArray) (t x:Nat) (ht:t≤x) (hx:x<l.length):(l.take (x+1)).drop t=(l.take x).drop t++[l[x]]:=by
 rw [List.take_succ_eq_append_getElem hx,List.drop_append_of_le_length (by rw [List.length_take];omega)]
theorem line_in (L:List ByteArray) (c:UInt8) (l:List ByteArray) (t x:Nat) (ht:t≤x) (hx:x<l.length):(L++sgs c ((l.take x).drop t))++[sg c l[x]]=L++sgs c ((l.take (x+1)).drop t):=by
 rw [drop_take_snoc l t x ht hx,sgs_snoc,List.append_assoc]
theorem line_none (L:List ByteArray) (c:UInt8) (l:List ByteArray) (t:Nat):L++sgs c ((l.take t).drop t)=L:=by
 rw [List.drop_of_length_le (by rw [List.length_take];omega)];simp [sgs]
theorem line_len (L:List ByteArray) (c:UInt8) (l:List ByteArray) (t x:Nat):(L++sgs c ((l.take x).drop t)).length≤L.length+(x - t):=by
 simp only [sgs,List.length_append,List.length_map,List.length_drop,List.length_take];omega
theorem ginfoStrM:(Try.prog.info? 9).map (fun i=>(i.zero,i.size,i.bytes))=some (some (.string ⟨#[]⟩),1,16):=by kernel_rfl
theorem MBox.away {w W0:World} {base:Nat} {oki:Nat→Prop} {vi:Value} {g2:Nat} {a0 a1 a2 a3:Int} {v:Value} {L:List ByteArray} {wr:World} (h:MBox w W0 base oki vi g2 a0 a1 a2 a3 v L wr) (j:Nat) (u:Value) :
  W0.grownBy (wr.setCell ⟨g2,j,none⟩ u) vi.ownBlock∧Kd.R Kd.string 9 (wr.setCell ⟨g2,j,none⟩ u) base oki v L∧Below w.heap.size w (wr.setCell ⟨g2,j,none⟩ u):=by
 have hne:∀ k,v.ownBlock=some k→k≠g2:=by
  intro k hk he
  subst he
  obtain ⟨cells,hc⟩:=Kd.R_typed h.row k hk
  rw [h.box] at hc
  injection hc with hc
  injection hc with _ hc
  exact absurd hc (by decide)
 refine ⟨⟨h.grow.os,h.grow.tape,h.grow.output,?_,?_⟩,?_,below_set h.bel (Nat.le_trans h.old_ h.new_)⟩
 ·rw [World.size_setCell];exact h.grow.size
 ·intro k hk hkn
  rw [Below.heap_setCell wr ⟨g2,j,none⟩ u k (by have:=h.new_;show k≠g2;omega)]
  exact h.grow.block k hk hkn
 exact Kd.R_mono (Kd.R_far (p:=⟨g2,j,none⟩) (Kd.R_tight rfl h.row) (fun k hk=>hne k hk.symm) u) (fun k hk=>h.row.1 k hk.symm)
theorem MBox.put1 {w W0:World} {base:Nat} {oki:Nat→Prop} {vi:Value} {g2:Nat} {a0 a1 a2 a3:Int} {v:Value} {L:List ByteArray} {wr:World} (h:MBox w W0 base oki vi g2 a0 a1 a2 a3 v L wr) (u:Int) :
  MBox w W0 base oki vi g2 a0 u a2 a3 v L (wr.setCell ⟨g2,1,none⟩ (.int .i64 u)) :=
 ⟨(h.away 1 _).1,(h.away 1 _).2.1,blk_put h.box 1 _ rfl,h.at_,h.new_,h.old_,(h.away 1 _).2.2⟩
theorem MBox.put3 {w W0:World} {base:Nat} {oki:Nat→Prop} {vi:Value} {g2:Nat} {a0 a1 a2 a3:Int} {v:Value} {L:List ByteArray} {wr:World} (h:MBox w W0 base oki vi g2 a0 a1 a2 a3 v L wr) (u:Int) :
  MBox w W0 base oki vi g2 a0 a1 a2 u v L (wr.setCell ⟨g2,3,none⟩ (.int .i64 u)) :=
 ⟨(h.away 3 _).1,(h.away 3 _).2.1,blk_put h.box 3 _ rfl,h.at_,h.new_,h.old_,(h.away 3 _).2.2⟩
theorem isLast_next {ar:Int} {e q:Ed} {l:List Ed} (h:farE ar (some e) q=false):isLast ar e (q :: l)=false:=h
theorem hkSet_len (out:List Hk) (x:Hk):(hkSet out x).length=out.length:=by unfold hkSet;rw [List.length_set]
theorem hkLast_set (out:List Hk) (x:Hk) (h:out≠[]):hkLast (hkSet out x)=x:=by
 have hp:0<out.length:=List.length_pos_iff.2 h
 unfold hkLast
 rw [hkSet_len]
 unfold hkSet
 rw [List.getD_eq_getElem?_getD,List.getElem?_set_self (by omega)];rfl

set_option maxRecDepth 100000 in
set_option maxHeartbeats 40000000 in
theorem r05_Make.calls (A0:Option Addr) (c0:Nat) (l0:List ByteArray) (A1:Option Addr) (c1:Nat) (l1:List Ed) (a2:Int) (r1:List Hk) (r2:Int) (w:World) (hr0:Kd.C Kd.string w A0 l0.length l0) (hc0:l0.length≤c0) (hr1:Kd.C k53 w A1 l1.length l1) (hc1:l1.length≤c1) (h:r05_Make.f l0 l1 a2=some (r1,r2)) :
  Calls Try.prog 21 #[.slice A0 l0.length c0,.slice A1 l1.length c1,.int .i64 a2] w fun e w'=>∃ v0_:Value,e=.returned (.tuple #[v0_,.int .i64 r2])∧Kd.S k41 41 w' w.heap.size (fun _=>True) v0_ r1∧Below w.heap.size w w':=by
 have hu1:=Try.underlying41
 have hu2:=Try.underlying53
 unfold r05_Make.f at h
 by_cases hs:SmallM l0 l1
 rotate_left
 ·rw [if_neg hs] at h;cases h
 rw [if_pos hs] at h
 have HR0:=Aside0.mk hr0
 have HC0:=Aside0.mk hc0
 have HR1:=Aside0.mk hr1
 have HC1:=Aside0.mk hc1
 have HS:=Aside0.mk hs
 have hl0:l0.length≤1048576:=hs.1
 have hl1:l1.length≤1048576:=hs.2.1
 obtain ⟨K,hK⟩:=(RRight_ev (l0.length:Int) l1 (by omega) (by omega) (by omega)).rounds
 obtain ⟨okr,hok⟩:∃ b:Bool,b=okFrom 0 (l0.length:Int) l1:=⟨_,rfl⟩
 rw [← hok] at hK h
 have HK:=Aside0.mk hK
 have HOK:=Aside0.mk hok
 have H:=Aside0.mk (Option.some.inj h)
 clear h hr0 hc0 hr1 hc1 hs hK hok
 go_enter Try.func21,Try.ntmps21
 go_upto_region 2 with (first
  | (go_at_call 31;(with_reducible refine (r04_Right.calls K _ _ _ l1 okr _ HR1.out HC1.out HK.out).mono ?_);rintro e w' ⟨rfl,⟨nd,rfl⟩⟩))
 go_cut [33] (fun v33 wc=>v33=.bool (decide ¬ (okr=true∧0≤a2∧a2≤1000))∧Drawn0 w wc)
 case first=>as_aux_lemma =>
  cases okr with
  | false =>
   go_wp2_with (fail)
   go_meet
   exact ⟨by simp,⟨⟨nd,rfl⟩⟩⟩
  | true =>
   by_cases c1:a2<0
   ·have f1:decide (a2<0)=true:=decide_eq_true c1
    have e1:=Aside0.mk (show (decide (¬ ((true:Bool)=true∧0≤a2∧a2≤1000)))=true from decide_eq_true (fun h=>by omega))
    clear c1
    go_wp2_with (fail)
    go_meet
    exact ⟨by rw [e1.out],⟨⟨nd,rfl⟩⟩⟩
   have f1:decide (a2<0)=false:=decide_eq_false c1
   by_cases c2:a2 > 1000
   ·have f2:decide (1000<a2)=true:=decide_eq_true c2
    have e1:=Aside0.mk (show (decide (¬ ((true:Bool)=true∧0≤a2∧a2≤1000)))=true from decide_eq_true (fun h=>by omega))
    clear c1 c2
    go_wp2_with (fail)
    go_meet
    exact ⟨by rw [e1.out],⟨⟨nd,rfl⟩⟩⟩
   have f2:decide (1000<a2)=false:=decide_eq_false c2
   have e1:=Aside0.mk (show (decide (¬ ((true:Bool)=true∧0≤a2∧a2≤1000)))=false from decide_eq_false (fun h=>h ⟨rfl,by omega,by omega⟩))
   clear c1 c2
   go_wp2_with (fail)
   go_meet
   exact ⟨by rw [e1.out],⟨⟨nd,rfl⟩⟩⟩
 case rest =>
  obtain ⟨rfl,⟨nd,rfl⟩⟩:=hcut
  by_cases hg:okr=true∧0≤a2∧a2≤1000
  ·obtain ⟨rfl,ha0,ha1⟩:=hg
   have e1:=H.out
   rw [if_pos ⟨rfl,ha0,ha1⟩] at e1
   obtain ⟨rfl,rfl⟩:=Prod.mk.inj e1
   rw [show (decide (¬ ((true:Bool)=true∧0≤a2∧a2≤1000)))=false from decide_eq_false (fun h=>h ⟨rfl,ha0,ha1⟩)]
   clear e1
   have HA:=Aside0.mk (And.intro ha0 ha1)
   clear ha0 ha1
   go_upto_block 0 with (fail)
   go_wp2_with (fail)
   go_loopg [9,10,11,12] l1.length (fun kq v9 v10 v11 v12 wr=>∃ (i t:Nat) (more:Int) (out:List Hk),v10=.int .i64 t∧v11=.int .i64 more∧v12=.int .i64 i∧Aside0 (l1.length≤kq+i)∧Aside0 (MRel w.heap.size w l0 l1 a2 (makeR l0 a2 none [] 0 0 l1) v9 i t more out wr))
   case atStart=>exact ⟨0,0,0,[],rfl,rfl,rfl,⟨Nat.le_add_right _ _⟩,⟨⟨Nat.zero_le _,rfl,fun h=>absurd h (Nat.lt_irrefl _),Nat.le_refl _,Kd.S_nil _ _ _ _ _,Nat.zero_le _,fun _ h=>absurd h (Nat.lt_irrefl _),fun h=>absurd h (Nat.lt_irrefl _),rfl,pw_below_drewN (Below.refl _ _) nd⟩⟩⟩
   case round =>
    clear HK H
    obtain ⟨i,t,more,out,rfl,rfl,rfl,HQ,HW⟩:=hrel
    have hi:=HW.out.hi
    by_cases hend:i=l1.length
    ·have f1:decide (i<l1.length)=false:=decide_eq_false (by omega)
     have HE:=Aside0.mk (show out=makeR l0 a2 none [] 0 0 l1 by
      have h:=HW.out.goes
      rw [hend,List.drop_length,makeR] at h
      exact h)
     clear hend
     go_wp2
     go_ret2
     exact ⟨_,rfl,by rw [← HE.out];exact HW.out.own,HW.out.bel⟩
    ·obtain ⟨gk',HG⟩:∃ m,Aside0 (gk=m+1):=⟨gk - 1,⟨by have:=HQ.out;omega⟩⟩
     have h0:i<l1.length:=by omega
     have f1:decide (i<l1.length)=true:=decide_eq_true h0
     have g1:(i:Int)<(l1.length:Int):=by omega
     clear hend
     obtain ⟨e,he⟩:∃ e,e=l1[i]:=⟨_,rfl⟩
     have HE:=Aside0.mk (show MEd l0 l1 i e by rw [he];exact med HS.out HOK.out.symm i h0)
     obtain ⟨pv,hpv⟩:∃ pv:Option Ed,pv=if i=0 then none else some (l1.getD (i - 1) ⟨0,0,[]⟩):=⟨_,rfl⟩
     have HPV:=Aside0.mk hpv
     obtain ⟨fb,hfb⟩:∃ fb,fb=farE a2 pv e:=⟨_,rfl⟩
     have HFB:=Aside0.mk hfb
     have HEI:=Aside0.mk he
     clear hpv hfb he
     go_upto_region 10 with (fail)
     go_cut [13] (fun v13 wc=>v13=.bool fb∧Aside0 (MRel w.heap.size w l0 l1 a2 (makeR l0 a2 none [] 0 0 l1) u9 i t more out wc)) -- DONE
     case first=>as_aux_lemma =>
      by_cases hz:i=0
      ·have k1:((i:Int) == 0)=true:=beq_iff_eq.2 (by omega)
       have k2:(i == 0)=true:=beq_iff_eq.2 hz
       have hft:fb=true:=by rw [HFB.out,HPV.out,if_pos hz];rfl
       subst hft
       clear hz
       repeat (go_quiet (fail);try go_wp2)
       go_meet
       case rel=>exact ⟨rfl,⟨HW.out.drewN nq⟩⟩
      ·have k1:((i:Int) == 0)=false:=beq_eq_false_iff_ne.2 (by omega)
       have k2:(i == 0)=false:=beq_eq_false_iff_ne.2 hz
       have hi1:i - 1<l1.length:=by omega
       obtain ⟨j,hj⟩:∃ j:Int,j=(i:Int) - 1:=⟨_,rfl⟩
       have kj:IntKind.i64.wrap ((i:Int) - 1)=j:=by rw [hj];exact IntWalk.i64_in _ (by omega)
       have j0:0≤j:=by omega
       have j1:j<(l1.length:Int):=by omega
       obtain ⟨p,hp⟩:∃ p,p=l1[i - 1]'hi1:=⟨_,rfl⟩
       have hpj:rd_T53 l1 j=p:=by
        rw [hp,show rd_T53 l1 j=rd_T53 l1 ((i - 1:Nat):Int) from by rw [show ((i - 1:Nat):Int)=j by omega]]
        exact rdE_at hi1
       have hpe:pv=some p:=by rw [HPV.out,if_neg hz,hp,List.getD_eq_getElem?_getD,List.getElem?_eq_getElem (by omega)];rfl
       have hME:MEd l0 l1 (i - 1) p:=by rw [hp];exact med HS.out HOK.out.symm (i - 1) hi1
       obtain ⟨ad,A2,c2,e0,hx0,hx1,hx2,hl,hi2⟩:=at_T53 (Kd.C_below HR1.out HW.out.bel) (i:Int) (by omega) g1
       obtain ⟨ad',A3,c3,e1,hy0,hy1,hy2,hl',hi3⟩:=at_T53 (Kd.C_below HR1.out HW.out.bel) j j0 j1
       rw [e0] at e1
       obtain rfl:=Option.some.inj e1
       cases e0
       rw [HE.out.at_] at hx0 hx1 hx2
       simp only [Int.toNat_natCast] at hx0
       rw [hpj] at hy0 hy1 hy2
       have b0:=HE.out.h0
       have b1:=HE.out.h1
       have b2:=HE.out.h2
       have b3:=hME.h0
       have b4:=hME.h1
       have b5:=hME.h2
       have b6:=HA.out
       have b7:=HS.out.1
       obtain ⟨s1,hs1⟩:∃ z:Int,z=p.f0+p.f1:=⟨_,rfl⟩
       obtain ⟨s2,hs2⟩:∃ z:Int,z=e.f0 - s1:=⟨_,rfl⟩
       obtain ⟨s3,hs3⟩:∃ z:Int,z=2 * a2:=⟨_,rfl⟩
       have k3:IntKind.i64.wrap (p.f0+p.f1)=s1:=by rw [hs1];exact IntWalk.i64_in _ (by omega)
       have k4:IntKind.i64.wrap (e.f0 - s1)=s2:=by rw [hs2];exact IntWalk.i64_in _ (by omega)
       have k5:IntKind.i64.wrap (2 * a2)=s3:=by rw [hs3];exact IntWalk.i64_in _ (by omega)
       have k6:decide (s3<s2)=fb:=by rw [HFB.out,hpe,hs3,hs2,hs1];rfl
       clear hs1 hs2 hs3 hp hpj hpe hME b0 b1 b2 b3 b4 b5 b6 b7 hj hl hl' hi2 hi3 hx1 hx2 hy2 hz
       go_quiet (fail)
       try go_wp2
       go_meet
       case rel=>exact ⟨rfl,⟨HW.out.drewN nq⟩⟩
     case rest =>
      obtain ⟨rfl,HWc⟩:=hcut
      clear HW
      have HW:=HWc
      clear HWc
      have HPO:=Aside0.mk (show pv=none∨out≠[] by
       rw [HPV.out]
       by_cases hz:i=0
       ·exact .inl (if_pos hz)
       ·exact .inr (HW.out.ne (by omega)))
      have HOL:=Aside0.mk (HW.out.len)
      obtain ⟨hmb1,hmb2⟩:-1048577≤more∧more≤1048576:=by
       have h1:=HW.out.moreb
       have h2:=diffE_bd l1 0 i (by omega) HOK.out.symm
       have h3:=HS.out.2.2.1
       omega
      have b0:=HE.out.h0
      have b1:=HE.out.h1
      have b2:=HE.out.h2
      have b6:=HA.out
      have hE0:=Aside0.mk (And.intro b0 (And.intro b1 b2))
      go_upto_if 66 with (fail)
      go_cut [9,10] (fun v9 v10 wc=>∃ (t':Nat) (out':List Hk),v10=.int .i64 t'∧Aside0 (t'=fromR a2 pv t e∧out'=openR a2 pv out more e)∧Aside0 (MMid w.heap.size w v9 out' wc)) -- DONE
      case first=>as_aux_lemma =>
       cases fb with
       | false =>
        go_wp2
        go_meet
        case rel=>exact ⟨t,out,rfl,⟨by rw [fromR,if_neg (by rw [← HFB.out];simp)],by rw [openR,if_neg (by rw [← HFB.out];simp)]⟩,⟨⟨HW.out.own,HW.out.bel⟩⟩⟩
       | true =>
        obtain ⟨ad,A2,c2,e0,hx0,hx1,hx2,hl,hi2⟩:=at_T53 (Kd.C_below HR1.out HW.out.bel) (i:Int) (by omega) g1
        cases e0
        rw [HE.out.at_] at hx0 hx1 hx2
        simp only [Int.toNat_natCast] at hx0
        obtain ⟨fm,hfm⟩:∃ fm:Nat,fm=fromH e a2:=⟨_,rfl⟩
        have km:(if a2<e.f0 then e.f0 - a2 else 0)=(fm:Int):=by rw [hfm];unfold fromH;split<;>omega
        have hfb2:(fm:Int)≤1048576:=by rw [hfm];unfold fromH;omega
        have b8:-9223372036854775808≤e.f0 - a2:=by omega
        have b9:e.f0 - a2≤9223372036854775807:=by omega
        have b3:-9223372036854775808≤(fm:Int)+more:=by omega
        have b4:(fm:Int)+more≤9223372036854775807:=by omega
        have hol:out.length≤1048576:=by have:=HOL.out;omega
        have HFM:=Aside0.mk hfm
        clear hfm hl hi2 hx1 hx2 b0 b1 b2 b6
        go_upto_region 13 with (fail)
        clear km b8 b9
        go_wp2_with (first|((with_reducible refine gate_dst (N:=80) rfl ?_);clear b3 b4;generalize hfs:(fm:Int)+more=fs;have HFS:=Aside0.mk hfs;clear hfs)|((with_reducible refine gate_dst (N:=81) rfl ?_);refine Kd.event_run rfl (v:=.slice (some ⟨wc.heap.size,0,none⟩) 1 1) (w1:=wc.alloc (.cells #[.int .i64 (fm:Int),.int .i64 0,.int .i64 fs,.int .i64 0,.slice none 0 0] 41 (0,0))) (by kernel_rfl) ?_;dsimp only [Act.put])|((with_reducible refine gate_builtin (b:=.append) (xs:=#[.tmp 75,.tmp 81]) rfl ?_);at_builtin;refine Kd.S_append k41 (w0:=w) w.heap.size rfl (.tmp 75) (.tmp 81) 23 41 (.agg #[(.int .i64 0),(.int .i64 0),(.int .i64 0),(.int .i64 0),(.slice none 0 0)]) 56 rfl Try.underlying23 ginfoHkM rfl (by decide) (by omega) _ out (⟨(fm:Int),0,fs,0,[]⟩:Hk) [.int .i64 (fm:Int),.int .i64 0,.int .i64 fs,.int .i64 0,.slice none 0 0] (fun _=>True) (fun _=>False) rfl rfl (k41_mkM _ _ _ (⟨(fm:Int),0,fs,0,[]⟩:Hk) (Kd.R_nil _ _ _ _ _)) (fun _ h=>h.elim) (fun _ _=>trivial) (Kd.S_mono HW.out.own (fun _ _=>⟨trivial,id⟩)) HW.out.bel HW.out.bel.size (by omega) ?_;intro v2 w2 ho hb hg hat;have HM2:=Aside0.mk (MMid.mk ho hb);clear ho hb hg hat))
        go_meet
        case rel=>exact ⟨fm,_,rfl,⟨by rw [fromR,if_pos HFB.out.symm];exact HFM.out,by rw [openR,if_pos HFB.out.symm,← HFM.out,HFS.out]⟩,HM2⟩
      case rest =>
       obtain ⟨t',out',rfl,HTO,HM⟩:=hcut
       obtain ⟨W0,hW0⟩:∃ W,W=wc:=⟨_,rfl⟩
       subst hW0
       have HNE:=Aside0.mk (show out'≠[] by rw [HTO.out.2];exact openR_ne _ _ _ _ _ HPO.out)
       have hp2:out'.length≤1048577:=by have h1:=HTO.out.2;have h2:=openR_len a2 pv out more e;have h3:=HOL.out;rw [← h1] at h2;omega
       have hp:0<out'.length:=List.length_pos_iff.2 HNE.out
       obtain ⟨g,cap,ev,hgb,hgl,HGc⟩:=Kd.S_form HM.out.own hp
       subst ev
       obtain ⟨jl,hjl⟩:∃ j:Int,j=(out'.length:Int) - 1:=⟨_,rfl⟩
       have kj:IntKind.i64.wrap ((out'.length:Int) - 1)=jl:=by rw [hjl];exact IntWalk.i64_in _ (by omega)
       have j0:0≤jl:=by omega
       have j1:jl<(out'.length:Int):=by omega
       have HJ:=Aside0.mk (show jl.toNat=out'.length - 1 by omega)
       have GB:=Aside0.mk hgb
       obtain ⟨Ai,ci,oki,hRi,hoki,hvg,hltg,hcc,hback⟩:=own_hunk HM.out.own HNE.out j0 HJ.out
       obtain ⟨hk,hhk⟩:∃ h:Hk,h=hkLast out':=⟨_,rfl⟩
       rw [← hhk] at hRi hvg hcc hback
       have HHK:=Aside0.mk hhk
       have HRI:=Aside0.mk hRi
       have HOKI:=Aside0.mk hoki
       have HVG:=Aside0.mk hvg
       have HCC:=Aside0.mk hcc
       have HBACK:=Aside0.mk hback
       have hbase:=Aside0.mk HM.out.bel.size
       have hq0:W0.cell? ⟨g,jl.toNat * 5,none⟩=some (.int .i64 hk.f0):=hcc 0 _ rfl
       have hq1:W0.cell? ⟨g,jl.toNat * 5+1,none⟩=some (.int .i64 hk.f1):=hcc 1 _ rfl
       have hq2:W0.cell? ⟨g,jl.toNat * 5+2,none⟩=some (.int .i64 hk.f2):=hcc 2 _ rfl
       have hq3:W0.cell? ⟨g,jl.toNat * 5+3,none⟩=some (.int .i64 hk.f3):=hcc 3 _ rfl
       have hq4:W0.cell? ⟨g,jl.toNat * 5+4,none⟩=some (.slice Ai hk.f4.length ci):=hcc 4 _ rfl
       clear hjl hgl hgb HGc hRi hoki hvg hcc hback hhk hltg
       go_upto_block 2 with (first
        | ((with_reducible refine gate_dst (N:=15) rfl ?_);refine box_event ?hg (N:=15) ?hd (cs:=#[.int .i64 0,.int .i64 0,.int .i64 0,.int .i64 0,.slice none 0 0]) (t:=41) ?hr ?_;(case hd=>rfl);(case hg=>rfl);(case hr=>kernel_rfl);intro g2 hg w6 hbox hb;have HBK:=Aside0.mk hbox;have HB6:=Aside0.mk hb;have HG2:=Aside0.mk hg;clear hg hbox hb;have hz_0:w6.cell? ⟨g2,0,none⟩=some (.int .i64 0):=(blk_cell HBK.out 0).trans rfl;have hz_1:w6.cell? ⟨g2,1,none⟩=some (.int .i64 0):=(blk_cell HBK.out 1).trans rfl;have hz_2:w6.cell? ⟨g2,2,none⟩=some (.int .i64 0):=(blk_cell HBK.out 2).trans rfl;have hz_3:w6.cell? ⟨g2,3,none⟩=some (.int .i64 0):=(blk_cell HBK.out 3).trans rfl;have hz_4:w6.cell? ⟨g2,4,none⟩=some (.slice none 0 0):=(blk_cell HBK.out 4).trans rfl;have hfz_0:=blk_frozen HBK.out 0;have hfz_1:=blk_frozen HBK.out 1;have hfz_2:=blk_frozen HBK.out 2;have hfz_3:=blk_frozen HBK.out 3;have hfz_4:=blk_frozen HBK.out 4)
        | ((with_reducible refine gate_store (t:=41) (p:=15) rfl ?_);refine store_event (t:=41) (p:=15) (v:=?vo_) (w1:=(((((w6.setCell ⟨g2,0,none⟩ (.int .i64 hk.f0)).setCell ⟨g2,1,none⟩ (.int .i64 hk.f1)).setCell ⟨g2,2,none⟩ (.int .i64 hk.f2)).setCell ⟨g2,3,none⟩ (.int .i64 hk.f3)).setCell ⟨g2,4,none⟩ (.slice Ai hk.f4.length ci))) ?hg ?ho ?hn ?hr ?_;(case ho=>rfl);(case hg=>rfl);(case hn=>rfl);(case hr=>first|(go_simp;done)|(go_simp;rfl));intro w7 hw;have HB7:=Aside0.mk (show Below W0.heap.size W0 w7 by rw [hw];exact below_fiveM HB6.out (Nat.le_of_eq HG2.out.symm));have HY7:=Aside0.mk (show w7.heap[g2]?=some (.cells #[.int .i64 hk.f0,.int .i64 hk.f1,.int .i64 hk.f2,.int .i64 hk.f3,.slice Ai hk.f4.length ci] 41 (0,0)) by rw [hw];exact set_fiveM HBK.out);clear hw hz_0 hz_1 hz_2 hz_3 hz_4 hfz_0 hfz_1 hfz_2 hfz_3 hfz_4))
       simp only [Act.put,List.setIfInBounds_toArray,List.set_cons_succ,List.set_cons_zero]
       have HMB:=Aside0.mk (show MBox w W0 w.heap.size oki (.slice Ai hk.f4.length ci) g2 hk.f0 hk.f1 hk.f2 hk.f3 (.slice Ai hk.f4.length ci) hk.f4 w7 from ⟨⟨HB7.out.os,HB7.out.tape,HB7.out.output,HB7.out.size,fun k hk _=>HB7.out.block k hk⟩,Kd.R_below HRI.out HB7.out,HY7.out,fun k hk _=>hk,Nat.le_of_eq HG2.out.symm,HM.out.bel.size,below_then HM.out.bel HM.out.bel.size HB7.out⟩)
       clear HB6 HBK HB7 HY7 hq0 hq1 hq2 hq3 hq4 HRI
       obtain ⟨E0,hE⟩:∃ E:Nat,(E:Int)=e.f0:=⟨e.f0.toNat,by have:=hE0.out.1;omega⟩
       have HEN:=Aside0.mk hE
       have hEl:E0≤l0.length:=by have:=hE0.out;omega
       have HTE:=Aside0.mk (show t'≤E0 by
        have h:=HTO.out.1
        rw [h,fromR]
        split
        ·unfold fromH;have:=HA.out;omega
        ·rename_i hf
         rcases Nat.eq_zero_or_pos i with hz|hz
         ·exact absurd (by rw [HPV.out,if_pos hz];rfl) hf
         ·have h2:=HW.out.near h0 hz (by
           rw [← HEI.out]
           rw [HPV.out,if_neg (by omega)] at hf
           simpa using hf)
          rw [← HEI.out] at h2
          omega)
       have HLB:=Aside0.mk (show hk.f4.length≤t'+insE (l1.take i) by
        rw [HHK.out,HTO.out.2,HTO.out.1,openR,fromR]
        split
        ·rw [hkLast_end];exact Nat.zero_le _
        ·rename_i hf
         rcases Nat.eq_zero_or_pos i with hz|hz
         ·exact absurd (by rw [HPV.out,if_pos hz];rfl) hf
         ·exact HW.out.lines hz)
       have hlb0:=HLB
       have HIB:=Aside0.mk (show insE (l1.take i)≤1048576 by have h1:=insE_take l1 i;have h2:=HS.out.2.2.1;omega)
       clear hE b0 b1 b2 b6 hmb1 hmb2
       go_cut [10] (fun v10 wc=>∃ (A:Option Addr) (c:Nat) (L':List ByteArray),v10=.int .i64 (E0:Int)∧Aside0 (L'=hk.f4++sgs 32 ((l0.take E0).drop t'))∧Aside0 (MBox w W0 w.heap.size oki (.slice Ai hk.f4.length ci) g2 hk.f0 hk.f1 hk.f2 hk.f3 (.slice A L'.length c) L' wc)) -- DONE
       case first=>as_aux_lemma =>
        go_wp2_with (fail)
        go_loopg [10] (E0 - t') (fun kq v10 wr=>∃ (x:Nat) (A:Option Addr) (c:Nat) (L':List ByteArray),v10=.int .i64 (x:Int)∧Aside0 (t'≤x∧x≤E0∧E0≤kq+x)∧Aside0 (L'=hk.f4++sgs 32 ((l0.take x).drop t'))∧Aside0 (MBox w W0 w.heap.size oki (.slice Ai hk.f4.length ci) g2 hk.f0 hk.f1 hk.f2 hk.f3 (.slice A L'.length c) L' wr))
        case atStart=>exact ⟨t',Ai,ci,hk.f4,rfl,⟨by have:=HTE.out;omega⟩,⟨(line_none _ _ _ _).symm⟩,HMB⟩
        case round =>
         clear HMB
         obtain ⟨x,A,c,L',rfl,HX,HL,HM2⟩:=hrel
         obtain ⟨ad,A2,c2,e0,hx0,hx1,hx2,hl,hi2⟩:=at_T53 (Kd.C_below HR1.out HM2.out.bel) (i:Int) (by omega) g1
         cases e0
         rw [HE.out.at_] at hx0 hx1 hx2 hl hi2
         simp only [Int.toNat_natCast] at hx0 hx1 hx2
         rw [← HEN.out] at hx0
         clear hx1 hx2 hl hi2
         by_cases hend:x=E0
         ·subst hend
          have f2:decide (x<x)=false:=decide_eq_false (Nat.lt_irrefl _)
          go_wp2
          go_meet
          case rel=>exact ⟨A,c,L',rfl,HL,HM2⟩
         ·obtain ⟨gk2,HG2⟩:∃ m,Aside0 (gk=m+1):=⟨gk - 1,⟨by have:=HX.out;omega⟩⟩
          have hxl:x<l0.length:=by have:=HX.out;omega
          have f2:decide (x<E0)=true:=decide_eq_true (by have:=HX.out;omega)
          obtain ⟨ad0,ea,hw1⟩:=at_textM HR0.out x hxl
          cases ea
          obtain ⟨s1,hs1e⟩:∃ s1,s1=l0[x]:=⟨_,rfl⟩
          have hz1:1+s1.size≤9223372036854775807:=by rw [hs1e];have:=HS.out.2.2.2.1 _ (List.getElem_mem hxl);omega
          have kc:(9223372036854775807<1+s1.size)=False:=eq_false (by omega)
          rw [← hs1e] at hw1
          have HS1:=Aside0.mk hw1
          have HSE:=Aside0.mk hs1e
          have HM3:=Aside0.mk HM2.out.drew
          have HFR:=Aside0.mk (show ∀ k,wr.drew.heap.size≤k→oki k from fun k hk=>HOKI.out k (Nat.le_trans HM3.out.grow.size hk))
          have hs0:wr.drew.cell? ⟨g2,4,none⟩=some (.slice A L'.length c):=(blk_cell HM3.out.box 4).trans rfl
          have hs1:=pw_cell_below HM3.out.bel hw1
          have hll:L'.length≤4194304:=by have h1:=HL.out;have h2:=line_len hk.f4 32 l0 t' x;have h3:=HX.out;have h4:=HLB.out;have h5:=HIB.out;rw [← h1] at h2;omega
          have kx:IntKind.i64.wrap ((x:Int)+1)=(x:Int)+1:=IntWalk.i64_in _ (by omega)
          have hxb:(x:Int)<1048577:=by omega
          have hx1b:(x:Int)<(l0.length:Int):=by omega
          have HXL:=Aside0.mk (show x<E0 by have:=HX.out;omega)
          clear hw1 hs1e hend
          go_wp2
          refine start_ (n:=11) (S:=fun w'=>w'.cell? ⟨g2,4,none⟩=some (.slice A L'.length c)∧w'.cell? (ad0.add x)=some (.string s1)) (ds:=[10]) #[false,false,false,false,false,false,false,false,false,false,false] (by kernel_rfl) rfl rfl ⟨hs0,hs1⟩ (fun hHeld=>?_)
          refine with_tabW gref_Make17.tab17 gref_Make17.bits17 (fun HT_ HW_=>?_)
          generalize wr.drew=w3 at HM3 HFR hs0 hs1 hHeld ⊢
          refine pure_ (i:=0) (N:=some 97) (v:=?_) (a':=?_) #[true,false,false,false,false,false,false,false,false,false,false] rfl rfl (any_of HT_.out (by kernel_rfl)) (fun _ _ _ h=>h) (Or.inl ⟨by rfl,?_⟩) ?_ ?_
          rotate_left
          ·intro w'
           go_simp
           with_reducible rfl
          rotate_left
          ·simp only [Act.put,List.setIfInBounds_toArray,List.set_cons_zero,List.set_cons_succ,i64_w,i32_w]
           rfl
          refine pure_ (i:=2) (N:=some 99) (v:=?_) (a':=?_) #[true,false,true,false,false,false,false,false,false,false,false] rfl rfl (any_of HT_.out (by kernel_rfl)) (fun _ _ _ h=>h) (Or.inl ⟨by rfl,?_⟩) ?_ ?_
          rotate_left
          ·intro w'
           go_simp
           with_reducible rfl
          rotate_left
          ·simp only [Act.put,List.setIfInBounds_toArray,List.set_cons_zero,List.set_cons_succ,i64_w,i32_w]
           rfl
          refine pure_ (i:=3) (N:=some 100) (v:=?_) (a':=?_) #[true,false,true,true,false,false,false,false,false,false,false] rfl rfl (any_of HT_.out (by kernel_rfl)) (fun _ _ _ h=>h) (Or.inl ⟨by rfl,?_⟩) ?_ ?_
          rotate_left
          ·intro w'
           go_simp
           with_reducible rfl
          rotate_left
          ·simp only [Act.put,List.setIfInBounds_toArray,List.set_cons_zero,List.set_cons_succ,i64_w,i32_w]
           rfl
          refine pure_ (i:=4) (N:=some 101) (v:=?_) (a':=?_) #[true,false,true,true,true,false,false,false,false,false,false] rfl rfl (any_of HT_.out (by kernel_rfl)) (fun _ _ _ h=>h) (Or.inl ⟨by rfl,?_⟩) ?_ ?_
          rotate_left
          ·intro w'
           go_simp
           with_reducible rfl
          rotate_left
          ·simp only [Act.put,List.setIfInBounds_toArray,List.set_cons_zero,List.set_cons_succ,i64_w,i32_w]
           rfl
          refine take_ (i:=1) (N:=some 98) (v:=?_) (a':=?_) #[true,true,true,true,true,false,false,false,false,false,false] rfl rfl (take_ofW HT_.out HW_.out (by kernel_rfl)) (fun _ _ _ h=>h) (Or.inl ⟨by rfl,?_⟩) hHeld ?_ ?_
          rotate_left
          ·rintro w' ⟨s0,s1⟩
           go_simp
           with_reducible rfl
          rotate_left
          ·simp only [Act.put,List.setIfInBounds_toArray,List.set_cons_zero,List.set_cons_succ,i64_w,i32_w]
           rfl
          refine take_ (i:=5) (N:=some 102) (v:=?_) (a':=?_) #[true,true,true,true,true,true,false,false,false,false,false] rfl rfl (take_ofW HT_.out HW_.out (by kernel_rfl)) (fun _ _ _ h=>h) (Or.inl ⟨by rfl,?_⟩) hHeld ?_ ?_
          rotate_left
          ·rintro w' ⟨s0,s1⟩
           go_simp
           with_reducible rfl
          rotate_left
          ·simp only [Act.put,List.setIfInBounds_toArray,List.set_cons_zero,List.set_cons_succ,i64_w,i32_w]
           rfl
          refine pure_ (i:=6) (N:=some 103) (v:=?_) (a':=?_) #[true,true,true,true,true,true,true,false,false,false,false] rfl rfl (any_of HT_.out (by kernel_rfl)) (fun _ _ _ h=>h) (Or.inl ⟨by rfl,?_⟩) ?_ ?_
          rotate_left
          ·intro w'
           go_simp
           with_reducible rfl
          rotate_left
          ·simp only [Act.put,List.setIfInBounds_toArray,List.set_cons_zero,List.set_cons_succ,i64_w,i32_w]
           rfl
          refine one_ (i:=7) (N:=some 104) #[true,true,true,true,true,true,true,true,false,false,false] rfl rfl (one_of HT_.out (by kernel_rfl)) (by decide) (fun K hK=>?_)
          refine value_ (w1:=?_) (v:=?_) (by rfl) rfl ?_ ?_
          rotate_left 2
          ·go_simp
           constructor
           ·rfl
           ·rfl
          refine hK.out _ _ ⟨(pw_cell_below (below_alloc (Below.refl _ _) _) hs0),(pw_cell_below (below_alloc (Below.refl _ _) _) hs1)⟩ (fun hHeld=>?_)
          clear hK K
          refine norm_ (a':=?_) ?_ ?_
          rotate_left
          ·show Act.put _ (some 104) _=_
           simp only [Act.put,List.setIfInBounds_toArray,List.set_cons_zero,List.set_cons_succ,i64_w,i32_w]
           rfl
          refine one_ (i:=8) (N:=some 105) #[true,true,true,true,true,true,true,true,true,false,false] rfl rfl (one_of HT_.out (by kernel_rfl)) (by decide) (fun K hK=>?_)
          refine Kd.R_append_step Kd.string (w0:=w) w.heap.size (by rfl) (.tmp 98) (.tmp 104) 22 9 (.string ⟨#[]⟩) 16 rfl Try.underlying22 ginfoStrM rfl (by decide) (by omega) (.slice A L'.length c) L' ((⟨#[32]⟩:ByteArray)++s1) [.string ((⟨#[32]⟩:ByteArray)++s1)] oki (fun _=>False) rfl rfl rfl (fun _ h=>h.elim) HFR.out HM3.out.row HM3.out.bel HM3.out.bel.size (by omega) ?_
          intro v3 w5 ho hb hg hat
          obtain ⟨A3,c3,e3⟩:=Kd.R_slice ho
          rw [List.length_append,List.length_singleton] at e3
          subst e3
          obtain ⟨hbx,hmb⟩:=HM3.out.step hg ho hb hat
          have hc3:=(blk_cell hbx 4).trans rfl
          have hf3:=blk_frozen hbx 4
          have HM5:=Aside0.mk hmb
          have hs1':=pw_cell_below hb HS1.out
          clear ho hb hg hat hbx hmb hs0 hs1
          refine hK.out _ _ ⟨hc3,hs1'⟩ (fun hHeld=>?_)
          clear hK K
          refine norm_ (a':=?_) ?_ ?_
          rotate_left
          ·show Act.put _ (some 105) _=_
           simp only [Act.put,List.setIfInBounds_toArray,List.set_cons_zero,List.set_cons_succ,i64_w,i32_w]
           rfl
          refine pure_ (i:=9) (N:=some 106) (v:=?_) (a':=?_) #[true,true,true,true,true,true,true,true,true,true,false] rfl rfl (any_of HT_.out (by kernel_rfl)) (fun _ _ _ h=>h) (Or.inl ⟨by rfl,?_⟩) ?_ ?_
          rotate_left
          ·intro w'
           go_simp
           with_reducible rfl
          rotate_left
          ·simp only [Act.put,List.setIfInBounds_toArray,List.set_cons_zero,List.set_cons_succ,i64_w,i32_w]
           rfl
          refine last_ (i:=10) (N:=none) #[true,true,true,true,true,true,true,true,true,true,true] rfl rfl (one_of HT_.out (by kernel_rfl)) (by decide) (fun K hK=>?_)
          refine skip_ (w1:=?_) (by rfl) rfl ?_ ?_
          rotate_left
          ·go_simp
           rfl
          refine hK.out _ _ ?_
          clear hK K
          refine done_ (done_of HT_.out (by kernel_rfl)) ?_

          go_wp2
          go_roundg gk2
          case measure=>have:=HG2.out;omega
          case rel =>
           clear kx
           exact ⟨x+1,A3,c3,L'++[(⟨#[32]⟩:ByteArray)++s1],by go_num,⟨by have:=HX.out;have:=HG2.out;have:=HXL.out;omega⟩,⟨by rw [HL.out,HSE.out];exact line_in hk.f4 32 l0 t' x HX.out.1 hxl⟩,by rw [List.length_append,List.length_singleton];exact HM5⟩
       case rest =>
        clear HMB HLB
        obtain ⟨A,c,L1,rfl,HL1,HMB⟩:=hcut
        have HLB1:=Aside0.mk (show L1.length≤4194304 by have h1:=HL1.out;have h2:=line_len hk.f4 32 l0 t' E0;have h4:=hlb0.out;have h5:=HIB.out;have h6:=HTE.out;rw [← h1] at h2;omega)
        obtain ⟨D0,hD⟩:∃ D:Nat,(D:Int)=e.f1:=⟨e.f1.toNat,by have:=hE0.out;omega⟩
        have HDN:=Aside0.mk hD
        have hE1:E0+D0≤l0.length:=by have h1:=hE0.out;have h2:=HEN.out;omega
        clear hD
        go_upto_block 4 with (fail)
        go_cut [10,16] (fun v10 v16 wc=>∃ (A:Option Addr) (c:Nat) (L':List ByteArray),v10=.int .i64 ((E0+D0:Nat):Int)∧Aside0 (L'=L1++sgs 45 ((l0.take (E0+D0)).drop E0))∧Aside0 (MBox w W0 w.heap.size oki (.slice Ai hk.f4.length ci) g2 hk.f0 hk.f1 hk.f2 hk.f3 (.slice A L'.length c) L' wc)) -- DONE
        case first=>as_aux_lemma =>
         go_wp2_with (fail)
         go_loopg [10,16] D0 (fun kq v10 v16 wr=>∃ (x y:Nat) (A:Option Addr) (c:Nat) (L':List ByteArray),v10=.int .i64 (y:Int)∧v16=.int .i64 (x:Int)∧Aside0 (y=E0+x∧x≤D0∧D0≤kq+x)∧Aside0 (L'=L1++sgs 45 ((l0.take y).drop E0))∧Aside0 (MBox w W0 w.heap.size oki (.slice Ai hk.f4.length ci) g2 hk.f0 hk.f1 hk.f2 hk.f3 (.slice A L'.length c) L' wr))
         case atStart=>exact ⟨0,E0,A,c,L1,rfl,rfl,⟨by omega⟩,⟨(line_none _ _ _ _).symm⟩,HMB⟩
         case round =>
          clear HMB
          obtain ⟨x,y,A,c,L',rfl,rfl,HX,HL,HM2⟩:=hrel
          obtain ⟨ad,A2,c2,e0,hx0,hx1,hx2,hl,hi2⟩:=at_T53 (Kd.C_below HR1.out HM2.out.bel) (i:Int) (by omega) g1
          cases e0
          rw [HE.out.at_] at hx0 hx1 hx2 hl hi2
          simp only [Int.toNat_natCast] at hx0 hx1 hx2
          rw [← HDN.out] at hx1
          clear hx0 hx2 hl hi2
          by_cases hend:x=D0
          ·have f2:decide (x<D0)=false:=decide_eq_false (by omega)
           have hy:y=E0+D0:=by have:=HX.out;omega
           subst hy
           go_wp2
           go_meet
           case rel=>exact ⟨A,c,L',rfl,HL,HM2⟩
          ·obtain ⟨gk2,HG2⟩:∃ m,Aside0 (gk=m+1):=⟨gk - 1,⟨by have:=HX.out;omega⟩⟩
           have hyl:y<l0.length:=by have:=HX.out;omega
           have f2:decide (x<D0)=true:=decide_eq_true (by have:=HX.out;omega)
           obtain ⟨ad0,ea,hw1⟩:=at_textM HR0.out y hyl
           cases ea
           obtain ⟨s1,hs1e⟩:∃ s1,s1=l0[y]:=⟨_,rfl⟩
           have hz1:1+s1.size≤9223372036854775807:=by rw [hs1e];have:=HS.out.2.2.2.1 _ (List.getElem_mem hyl);omega
           have kc:(9223372036854775807<1+s1.size)=False:=eq_false (by omega)
           rw [← hs1e] at hw1
           have HS1:=Aside0.mk hw1
           have HSE:=Aside0.mk hs1e
           have HM3:=Aside0.mk HM2.out.drew
           have HFR:=Aside0.mk (show ∀ k,wr.drew.heap.size≤k→oki k from fun k hk=>HOKI.out k (Nat.le_trans HM3.out.grow.size hk))
           have hs0:wr.drew.cell? ⟨g2,4,none⟩=some (.slice A L'.length c):=(blk_cell HM3.out.box 4).trans rfl
           have hs1:=pw_cell_below HM3.out.bel hw1
           have hll:L'.length≤8388608:=by have h1:=HL.out;have h2:=line_len L1 45 l0 E0 y;have h4:=HLB1.out;rw [← h1] at h2;omega
           have kx:IntKind.i64.wrap ((x:Int)+1)=(x:Int)+1:=IntWalk.i64_in _ (by have:=HX.out;omega)
           have ky:IntKind.i64.wrap ((y:Int)+1)=(y:Int)+1:=IntWalk.i64_in _ (by omega)
           have hx1b:(y:Int)<(l0.length:Int):=by omega
           have HXL:=Aside0.mk (show x<D0 by have:=HX.out;omega)
           clear hw1 hs1e hend
           go_wp2
           refine start_ (n:=11) (S:=fun w'=>w'.cell? ⟨g2,4,none⟩=some (.slice A L'.length c)∧w'.cell? (ad0.add y)=some (.string s1)) (ds:=[10]) #[false,false,false,false,false,false,false,false,false,false,false] (by kernel_rfl) rfl rfl ⟨hs0,hs1⟩ (fun hHeld=>?_)
           refine with_tabW gref_Make22.tab22 gref_Make22.bits22 (fun HT_ HW_=>?_)
           generalize wr.drew=w3 at HM3 HFR hs0 hs1 hHeld ⊢
           refine pure_ (i:=0) (N:=some 118) (v:=?_) (a':=?_) #[true,false,false,false,false,false,false,false,false,false,false] rfl rfl (any_of HT_.out (by kernel_rfl)) (fun _ _ _ h=>h) (Or.inl ⟨by rfl,?_⟩) ?_ ?_
           rotate_left
           ·intro w'
            go_simp
            with_reducible rfl
           rotate_left
           ·simp only [Act.put,List.setIfInBounds_toArray,List.set_cons_zero,List.set_cons_succ,i64_w,i32_w]
            rfl
           refine pure_ (i:=2) (N:=some 120) (v:=?_) (a':=?_) #[true,false,true,false,false,false,false,false,false,false,false] rfl rfl (any_of HT_.out (by kernel_rfl)) (fun _ _ _ h=>h) (Or.inl ⟨by rfl,?_⟩) ?_ ?_
           rotate_left
           ·intro w'
            go_simp
            with_reducible rfl
           rotate_left
           ·simp only [Act.put,List.setIfInBounds_toArray,List.set_cons_zero,List.set_cons_succ,i64_w,i32_w]
            rfl
           refine pure_ (i:=3) (N:=some 121) (v:=?_) (a':=?_) #[true,false,true,true,false,false,false,false,false,false,false] rfl rfl (any_of HT_.out (by kernel_rfl)) (fun _ _ _ h=>h) (Or.inl ⟨by rfl,?_⟩) ?_ ?_
           rotate_left
           ·intro w'
            go_simp
            with_reducible rfl
           rotate_left
           ·simp only [Act.put,List.setIfInBounds_toArray,List.set_cons_zero,List.set_cons_succ,i64_w,i32_w]
            rfl
           refine pure_ (i:=4) (N:=some 122) (v:=?_) (a':=?_) #[true,false,true,true,true,false,false,false,false,false,false] rfl rfl (any_of HT_.out (by kernel_rfl)) (fun _ _ _ h=>h) (Or.inl ⟨by rfl,?_⟩) ?_ ?_
           rotate_left
           ·intro w'
            go_simp
            with_reducible rfl
           rotate_left
           ·simp only [Act.put,List.setIfInBounds_toArray,List.set_cons_zero,List.set_cons_succ,i64_w,i32_w]
            rfl
           refine take_ (i:=1) (N:=some 119) (v:=?_) (a':=?_) #[true,true,true,true,true,false,false,false,false,false,false] rfl rfl (take_ofW HT_.out HW_.out (by kernel_rfl)) (fun _ _ _ h=>h) (Or.inl ⟨by rfl,?_⟩) hHeld ?_ ?_
           rotate_left
           ·rintro w' ⟨s0,s1⟩
            go_simp
            with_reducible rfl
           rotate_left
           ·simp only [Act.put,List.setIfInBounds_toArray,List.set_cons_zero,List.set_cons_succ,i64_w,i32_w]
            rfl
           refine take_ (i:=5) (N:=some 123) (v:=?_) (a':=?_) #[true,true,true,true,true,true,false,false,false,false,false] rfl rfl (take_ofW HT_.out HW_.out (by kernel_rfl)) (fun _ _ _ h=>h) (Or.inl ⟨by rfl,?_⟩) hHeld ?_ ?_
           rotate_left
           ·rintro w' ⟨s0,s1⟩
            go_simp
            with_reducible rfl
           rotate_left
           ·simp only [Act.put,List.setIfInBounds_toArray,List.set_cons_zero,List.set_cons_succ,i64_w,i32_w]
            rfl
           refine pure_ (i:=6) (N:=some 124) (v:=?_) (a':=?_) #[true,true,true,true,true,true,true,false,false,false,false] rfl rfl (any_of HT_.out (by kernel_rfl)) (fun _ _ _ h=>h) (Or.inl ⟨by rfl,?_⟩) ?_ ?_
           rotate_left
           ·intro w'
            go_simp
            with_reducible rfl
           rotate_left
           ·simp only [Act.put,List.setIfInBounds_toArray,List.set_cons_zero,List.set_cons_succ,i64_w,i32_w]
            rfl
           refine one_ (i:=7) (N:=some 125) #[true,true,true,true,true,true,true,true,false,false,false] rfl rfl (one_of HT_.out (by kernel_rfl)) (by decide) (fun K hK=>?_)
           refine value_ (w1:=?_) (v:=?_) (by rfl) rfl ?_ ?_
           rotate_left 2
           ·go_simp
            constructor
            ·rfl
            ·rfl
           refine hK.out _ _ ⟨(pw_cell_below (below_alloc (Below.refl _ _) _) hs0),(pw_cell_below (below_alloc (Below.refl _ _) _) hs1)⟩ (fun hHeld=>?_)
           clear hK K
           refine norm_ (a':=?_) ?_ ?_
           rotate_left
           ·show Act.put _ (some 125) _=_
            simp only [Act.put,List.setIfInBounds_toArray,List.set_cons_zero,List.set_cons_succ,i64_w,i32_w]
            rfl
           refine one_ (i:=8) (N:=some 126) #[true,true,true,true,true,true,true,true,true,false,false] rfl rfl (one_of HT_.out (by kernel_rfl)) (by decide) (fun K hK=>?_)
           refine Kd.R_append_step Kd.string (w0:=w) w.heap.size (by rfl) (.tmp 119) (.tmp 125) 22 9 (.string ⟨#[]⟩) 16 rfl Try.underlying22 ginfoStrM rfl (by decide) (by omega) (.slice A L'.length c) L' ((⟨#[45]⟩:ByteArray)++s1) [.string ((⟨#[45]⟩:ByteArray)++s1)] oki (fun _=>False) rfl rfl rfl (fun _ h=>h.elim) HFR.out HM3.out.row HM3.out.bel HM3.out.bel.size (by omega) ?_
           intro v3 w5 ho hb hg hat
           obtain ⟨A3,c3,e3⟩:=Kd.R_slice ho
           rw [List.length_append,List.length_singleton] at e3
           subst e3
           obtain ⟨hbx,hmb⟩:=HM3.out.step hg ho hb hat
           have hc3:=(blk_cell hbx 4).trans rfl
           have hf3:=blk_frozen hbx 4
           have HM5:=Aside0.mk hmb
           have hs1':=pw_cell_below hb HS1.out
           clear ho hb hg hat hbx hmb hs0 hs1
           refine hK.out _ _ ⟨hc3,hs1'⟩ (fun hHeld=>?_)
           clear hK K
           refine norm_ (a':=?_) ?_ ?_
           rotate_left
           ·show Act.put _ (some 126) _=_
            simp only [Act.put,List.setIfInBounds_toArray,List.set_cons_zero,List.set_cons_succ,i64_w,i32_w]
            rfl
           refine pure_ (i:=9) (N:=some 127) (v:=?_) (a':=?_) #[true,true,true,true,true,true,true,true,true,true,false] rfl rfl (any_of HT_.out (by kernel_rfl)) (fun _ _ _ h=>h) (Or.inl ⟨by rfl,?_⟩) ?_ ?_
           rotate_left
           ·intro w'
            go_simp
            with_reducible rfl
           rotate_left
           ·simp only [Act.put,List.setIfInBounds_toArray,List.set_cons_zero,List.set_cons_succ,i64_w,i32_w]
            rfl
           refine last_ (i:=10) (N:=none) #[true,true,true,true,true,true,true,true,true,true,true] rfl rfl (one_of HT_.out (by kernel_rfl)) (by decide) (fun K hK=>?_)
           refine skip_ (w1:=?_) (by rfl) rfl ?_ ?_
           rotate_left
           ·go_simp
            rfl
           refine hK.out _ _ ?_
           clear hK K
           refine done_ (done_of HT_.out (by kernel_rfl)) ?_

           go_wp2
           go_roundg gk2
           case measure=>have:=HG2.out;omega
           case rel =>
            clear kx ky
            exact ⟨x+1,y+1,A3,c3,L'++[(⟨#[45]⟩:ByteArray)++s1],by go_num,by go_num,⟨by have:=HX.out;have:=HG2.out;have:=HXL.out;omega⟩,⟨by rw [HL.out,HSE.out];exact line_in L1 45 l0 E0 y (by have:=HX.out;omega) hyl⟩,by rw [List.length_append,List.length_singleton];exact HM5⟩
        case rest =>
         clear HMB
         obtain ⟨A,c,L2,rfl,HL2,HMB⟩:=hcut
         have HLB2:=Aside0.mk (show L2.length≤8388608 by have h1:=HL2.out;have h2:=line_len L1 45 l0 E0 (E0+D0);have h4:=HLB1.out;rw [← h1] at h2;omega)
         go_upto_block 6 with (fail)
         go_cut [17] (fun v17 wc=>∃ (A:Option Addr) (c:Nat) (L':List ByteArray),Aside0 (L'=L2++sgs 43 e.f2)∧Aside0 (MBox w W0 w.heap.size oki (.slice Ai hk.f4.length ci) g2 hk.f0 hk.f1 hk.f2 hk.f3 (.slice A L'.length c) L' wc)) -- DONE
         case first=>as_aux_lemma =>
          go_wp2_with (fail)
          go_loopg [17] e.f2.length (fun kq v17 wr=>∃ (x:Nat) (A:Option Addr) (c:Nat) (L':List ByteArray),v17=.int .i64 (x:Int)∧Aside0 (x≤e.f2.length∧e.f2.length≤kq+x)∧Aside0 (L'=L2++sgs 43 (e.f2.take x))∧Aside0 (MBox w W0 w.heap.size oki (.slice Ai hk.f4.length ci) g2 hk.f0 hk.f1 hk.f2 hk.f3 (.slice A L'.length c) L' wr))
          case atStart=>exact ⟨0,A,c,L2,rfl,⟨by omega⟩,⟨by simp [sgs]⟩,HMB⟩
          case round =>
           clear HMB
           obtain ⟨x,A,c,L',rfl,HX,HL,HM2⟩:=hrel
           obtain ⟨ad,A2,c2,e0,hx0,hx1,hx2w,hl,hi2⟩:=at_T53 HR1.out (i:Int) (by omega) g1
           cases e0
           rw [HE.out.at_] at hx2w hl hi2
           simp only [Int.toNat_natCast] at hx2w
           have hx2:=pw_cell_below HM2.out.bel hx2w
           have HS1:=Aside0.mk hx2w
           clear hx0 hx1 hx2w
           by_cases hend:x=e.f2.length
           ·have f2:decide (x<e.f2.length)=false:=decide_eq_false (by omega)
            have hL2:=Aside0.mk (show L'=L2++sgs 43 e.f2 by rw [HL.out,hend,List.take_length])
            clear hend hl hi2
            go_wp2
            go_meet
            case rel=>exact ⟨A,c,L',hL2,HM2⟩
           ·obtain ⟨gk2,HG2⟩:∃ m,Aside0 (gk=m+1):=⟨gk - 1,⟨by have:=HX.out;omega⟩⟩
            have hxl:x<e.f2.length:=by have:=HX.out;omega
            have f2:decide (x<e.f2.length)=true:=decide_eq_true hxl
            have hlen2:e.f2.length≤1048576:=HE.out.h3
            obtain ⟨ad3,ea,hw1⟩:=at_textM hi2 x hxl
            cases ea
            obtain ⟨s1,hs1e⟩:∃ s1,s1=e.f2[x]:=⟨_,rfl⟩
            have hz1:1+s1.size≤9223372036854775807:=by rw [hs1e];have:=HE.out.h4 _ (List.getElem_mem hxl);omega
            have kc:(9223372036854775807<1+s1.size)=False:=eq_false (by omega)
            rw [← hs1e] at hw1
            have HSE:=Aside0.mk hs1e
            have HM3:=Aside0.mk HM2.out.drew
            have HS2:=Aside0.mk hw1
            have HFR:=Aside0.mk (show ∀ k,wr.drew.heap.size≤k→oki k from fun k hk=>HOKI.out k (Nat.le_trans HM3.out.grow.size hk))
            have hs0:wr.drew.cell? ⟨g2,4,none⟩=some (.slice A L'.length c):=(blk_cell HM3.out.box 4).trans rfl
            have hs1:=pw_cell_below HM3.out.bel HS1.out
            have hs2:=pw_cell_below HM3.out.bel HS2.out
            have hll:L'.length≤16777216:=by rw [HL.out];have h4:=HLB2.out;simp only [sgs,List.length_append,List.length_map,List.length_take];omega
            have kx:IntKind.i64.wrap ((x:Int)+1)=(x:Int)+1:=IntWalk.i64_in _ (by omega)
            have hx1b:(x:Int)<(e.f2.length:Int):=by omega
            have HXL:=Aside0.mk hxl
            clear hs1e hend hl hi2 hw1
            go_wp2
            refine start_ (n:=15) (S:=fun w'=>w'.cell? ⟨g2,4,none⟩=some (.slice A L'.length c)∧w'.cell? ⟨(ad.add (i * 3)).block,(ad.add (i * 3)).off+2,none⟩=some (.slice (some ad3) e.f2.length c2)∧w'.cell? (ad3.add x)=some (.string s1)) (ds:=[14]) #[false,false,false,false,false,false,false,false,false,false,false,false,false,false,false] (by kernel_rfl) rfl rfl ⟨hs0,hs1,hs2⟩ (fun hHeld=>?_)
            refine with_tabW gref_Make27.tab27 gref_Make27.bits27 (fun HT_ HW_=>?_)
            generalize wr.drew=w3 at HM3 HFR hs0 hs1 hs2 hHeld ⊢
            refine pure_ (i:=0) (N:=some 140) (v:=?_) (a':=?_) #[true,false,false,false,false,false,false,false,false,false,false,false,false,false,false] rfl rfl (any_of HT_.out (by kernel_rfl)) (fun _ _ _ h=>h) (Or.inl ⟨by rfl,?_⟩) ?_ ?_
            rotate_left
            ·intro w'
             go_simp
             with_reducible rfl
            rotate_left
            ·simp only [Act.put,List.setIfInBounds_toArray,List.set_cons_zero,List.set_cons_succ,i64_w,i32_w]
             rfl
            refine pure_ (i:=2) (N:=some 142) (v:=?_) (a':=?_) #[true,false,true,false,false,false,false,false,false,false,false,false,false,false,false] rfl rfl (any_of HT_.out (by kernel_rfl)) (fun _ _ _ h=>h) (Or.inl ⟨by rfl,?_⟩) ?_ ?_
            rotate_left
            ·intro w'
             go_simp
             with_reducible rfl
            rotate_left
            ·simp only [Act.put,List.setIfInBounds_toArray,List.set_cons_zero,List.set_cons_succ,i64_w,i32_w]
             rfl
            refine pure_ (i:=3) (N:=some 143) (v:=?_) (a':=?_) #[true,false,true,true,false,false,false,false,false,false,false,false,false,false,false] rfl rfl (any_of HT_.out (by kernel_rfl)) (fun _ _ _ h=>h) (Or.inl ⟨by rfl,?_⟩) ?_ ?_
            rotate_left
            ·intro w'
             go_simp
             with_reducible rfl
            rotate_left
            ·simp only [Act.put,List.setIfInBounds_toArray,List.set_cons_zero,List.set_cons_succ,i64_w,i32_w]
             rfl
            refine pure_ (i:=4) (N:=some 144) (v:=?_) (a':=?_) #[true,false,true,true,true,false,false,false,false,false,false,false,false,false,false] rfl rfl (any_of HT_.out (by kernel_rfl)) (fun _ _ _ h=>h) (Or.inl ⟨by rfl,?_⟩) ?_ ?_
            rotate_left
            ·intro w'
             go_simp
             with_reducible rfl
            rotate_left
            ·simp only [Act.put,List.setIfInBounds_toArray,List.set_cons_zero,List.set_cons_succ,i64_w,i32_w]
             rfl
            refine pure_ (i:=5) (N:=some 145) (v:=?_) (a':=?_) #[true,false,true,true,true,true,false,false,false,false,false,false,false,false,false] rfl rfl (any_of HT_.out (by kernel_rfl)) (fun _ _ _ h=>h) (Or.inl ⟨by rfl,?_⟩) ?_ ?_
            rotate_left
            ·intro w'
             go_simp
             with_reducible rfl
            rotate_left
            ·simp only [Act.put,List.setIfInBounds_toArray,List.set_cons_zero,List.set_cons_succ,i64_w,i32_w]
             rfl
            refine pure_ (i:=7) (N:=some 147) (v:=?_) (a':=?_) #[true,false,true,true,true,true,false,true,false,false,false,false,false,false,false] rfl rfl (any_of HT_.out (by kernel_rfl)) (fun _ _ _ h=>h) (Or.inl ⟨by rfl,?_⟩) ?_ ?_
            rotate_left
            ·intro w'
             go_simp
             with_reducible rfl
            rotate_left
            ·simp only [Act.put,List.setIfInBounds_toArray,List.set_cons_zero,List.set_cons_succ,i64_w,i32_w]
             rfl
            refine take_ (i:=1) (N:=some 141) (v:=?_) (a':=?_) #[true,true,true,true,true,true,false,true,false,false,false,false,false,false,false] rfl rfl (take_ofW HT_.out HW_.out (by kernel_rfl)) (fun _ _ _ h=>h) (Or.inl ⟨by rfl,?_⟩) hHeld ?_ ?_
            rotate_left
            ·rintro w' ⟨s0,s1,s2⟩
             go_simp
             with_reducible rfl
            rotate_left
            ·simp only [Act.put,List.setIfInBounds_toArray,List.set_cons_zero,List.set_cons_succ,i64_w,i32_w]
             rfl
            refine take_ (i:=6) (N:=some 146) (v:=?_) (a':=?_) #[true,true,true,true,true,true,true,true,false,false,false,false,false,false,false] rfl rfl (take_ofW HT_.out HW_.out (by kernel_rfl)) (fun _ _ _ h=>h) (Or.inl ⟨by rfl,?_⟩) hHeld ?_ ?_
            rotate_left
            ·rintro w' ⟨s0,s1,s2⟩
             go_simp
             with_reducible rfl
            rotate_left
            ·simp only [Act.put,List.setIfInBounds_toArray,List.set_cons_zero,List.set_cons_succ,i64_w,i32_w]
             rfl
            refine pure_ (i:=8) (N:=some 148) (v:=?_) (a':=?_) #[true,true,true,true,true,true,true,true,true,false,false,false,false,false,false] rfl rfl (any_of HT_.out (by kernel_rfl)) (fun _ _ _ h=>h) (Or.inl ⟨by rfl,?_⟩) ?_ ?_
            rotate_left
            ·intro w'
             go_simp
             with_reducible rfl
            rotate_left
            ·simp only [Act.put,List.setIfInBounds_toArray,List.set_cons_zero,List.set_cons_succ,i64_w,i32_w]
             rfl
            refine take_ (i:=9) (N:=some 149) (v:=?_) (a':=?_) #[true,true,true,true,true,true,true,true,true,true,false,false,false,false,false] rfl rfl (take_ofW HT_.out HW_.out (by kernel_rfl)) (fun _ _ _ h=>h) (Or.inl ⟨by rfl,?_⟩) hHeld ?_ ?_
            rotate_left
            ·rintro w' ⟨s0,s1,s2⟩
             go_simp
             with_reducible rfl
            rotate_left
            ·simp only [Act.put,List.setIfInBounds_toArray,List.set_cons_zero,List.set_cons_succ,i64_w,i32_w]
             rfl
            refine pure_ (i:=10) (N:=some 150) (v:=?_) (a':=?_) #[true,true,true,true,true,true,true,true,true,true,true,false,false,false,false] rfl rfl (any_of HT_.out (by kernel_rfl)) (fun _ _ _ h=>h) (Or.inl ⟨by rfl,?_⟩) ?_ ?_
            rotate_left
            ·intro w'
             go_simp
             with_reducible rfl
            rotate_left
            ·simp only [Act.put,List.setIfInBounds_toArray,List.set_cons_zero,List.set_cons_succ,i64_w,i32_w]
             rfl
            refine one_ (i:=11) (N:=some 151) #[true,true,true,true,true,true,true,true,true,true,true,true,false,false,false] rfl rfl (one_of HT_.out (by kernel_rfl)) (by decide) (fun K hK=>?_)
            refine value_ (w1:=?_) (v:=?_) (by rfl) rfl ?_ ?_
            rotate_left 2
            ·go_simp
             constructor
             ·rfl
             ·rfl
            refine hK.out _ _ ⟨(pw_cell_below (below_alloc (Below.refl _ _) _) hs0),(pw_cell_below (below_alloc (Below.refl _ _) _) hs1),(pw_cell_below (below_alloc (Below.refl _ _) _) hs2)⟩ (fun hHeld=>?_)
            clear hK K
            refine norm_ (a':=?_) ?_ ?_
            rotate_left
            ·show Act.put _ (some 151) _=_
             simp only [Act.put,List.setIfInBounds_toArray,List.set_cons_zero,List.set_cons_succ,i64_w,i32_w]
             rfl
            refine one_ (i:=12) (N:=some 152) #[true,true,true,true,true,true,true,true,true,true,true,true,true,false,false] rfl rfl (one_of HT_.out (by kernel_rfl)) (by decide) (fun K hK=>?_)
            refine Kd.R_append_step Kd.string (w0:=w) w.heap.size (by rfl) (.tmp 141) (.tmp 151) 22 9 (.string ⟨#[]⟩) 16 rfl Try.underlying22 ginfoStrM rfl (by decide) (by omega) (.slice A L'.length c) L' ((⟨#[43]⟩:ByteArray)++s1) [.string ((⟨#[43]⟩:ByteArray)++s1)] oki (fun _=>False) rfl rfl rfl (fun _ h=>h.elim) HFR.out HM3.out.row HM3.out.bel HM3.out.bel.size (by omega) ?_
            intro v3 w5 ho hb hg hat
            obtain ⟨A3,c3,e3⟩:=Kd.R_slice ho
            rw [List.length_append,List.length_singleton] at e3
            subst e3
            obtain ⟨hbx,hmb⟩:=HM3.out.step hg ho hb hat
            have hc3:=(blk_cell hbx 4).trans rfl
            have hf3:=blk_frozen hbx 4
            have HM5:=Aside0.mk hmb
            have hs1':=pw_cell_below hb HS1.out
            have hs2':=pw_cell_below hb HS2.out
            clear ho hb hg hat hbx hmb hs0 hs1 hs2
            refine hK.out _ _ ⟨hc3,hs1',hs2'⟩ (fun hHeld=>?_)
            clear hK K
            refine norm_ (a':=?_) ?_ ?_
            rotate_left
            ·show Act.put _ (some 152) _=_
             simp only [Act.put,List.setIfInBounds_toArray,List.set_cons_zero,List.set_cons_succ,i64_w,i32_w]
             rfl
            refine pure_ (i:=13) (N:=some 153) (v:=?_) (a':=?_) #[true,true,true,true,true,true,true,true,true,true,true,true,true,true,false] rfl rfl (any_of HT_.out (by kernel_rfl)) (fun _ _ _ h=>h) (Or.inl ⟨by rfl,?_⟩) ?_ ?_
            rotate_left
            ·intro w'
             go_simp
             with_reducible rfl
            rotate_left
            ·simp only [Act.put,List.setIfInBounds_toArray,List.set_cons_zero,List.set_cons_succ,i64_w,i32_w]
             rfl
            refine last_ (i:=14) (N:=none) #[true,true,true,true,true,true,true,true,true,true,true,true,true,true,true] rfl rfl (one_of HT_.out (by kernel_rfl)) (by decide) (fun K hK=>?_)
            refine skip_ (w1:=?_) (by rfl) rfl ?_ ?_
            rotate_left
            ·go_simp
             rfl
            refine hK.out _ _ ?_
            clear hK K
            refine done_ (done_of HT_.out (by kernel_rfl)) ?_

            go_wp2
            go_roundg gk2
            case measure=>have:=HG2.out;omega
            case rel =>
             clear kx
             exact ⟨x+1,A3,c3,L'++[(⟨#[43]⟩:ByteArray)++s1],by go_num,⟨by have:=HX.out;have:=HG2.out;have:=HXL.out;omega⟩,⟨by rw [HL.out,HSE.out,List.take_succ_eq_append_getElem hxl,sgs_snoc,List.append_assoc];rfl⟩,by rw [List.length_append,List.length_singleton];exact HM5⟩
         case rest =>
          clear HMB
          obtain ⟨A,c,L3,HL3,HMB⟩:=hcut
          have HLB3:=Aside0.mk (show L3.length≤16777216 by rw [HL3.out];have h4:=HLB2.out;have h5:=HE.out.h3;simp only [sgs,List.length_append,List.length_map];omega)
          obtain ⟨m2,hm2⟩:∃ m:Int,m=more+((e.f2.length:Int) - e.f1):=⟨_,rfl⟩
          have HM2N:=Aside0.mk hm2
          clear hm2
          go_upto_region 28 with (fail)
          go_cut [11] (fun v11 wc=>v11=.int .i64 m2∧Aside0 (MBox w W0 w.heap.size oki (.slice Ai hk.f4.length ci) g2 hk.f0 hk.f1 hk.f2 hk.f3 (.slice A L3.length c) L3 wc)) -- DONE
          case first=>as_aux_lemma =>
           obtain ⟨ad,A2,c2,e0,hx0,hx1,hx2,hl,hi2⟩:=at_T53 (Kd.C_below HR1.out HMB.out.bel) (i:Int) (by omega) g1
           cases e0
           rw [HE.out.at_] at hx0 hx1 hx2 hl hi2
           simp only [Int.toNat_natCast] at hx0 hx1 hx2
           obtain ⟨hmb1,hmb2⟩:-1048577≤more∧more≤1048576:=by
            have h1:=HW.out.moreb
            have h2:=diffE_bd l1 0 i (by omega) HOK.out.symm
            have h3:=HS.out.2.2.1
            omega
           have b1:=hE0.out
           have b3:=HE.out.h3
           obtain ⟨z1,hz1⟩:∃ z:Int,z=more+(e.f2.length:Int):=⟨_,rfl⟩
           have k1:IntKind.i64.wrap (more+(e.f2.length:Int))=z1:=by rw [hz1];exact IntWalk.i64_in _ (by omega)
           have k2:IntKind.i64.wrap (z1 - e.f1)=m2:=by rw [HM2N.out,hz1,IntWalk.i64_in _ (by omega)];omega
           clear hz1 hmb1 hmb2 b1 b3 hx0 hl hi2
           go_quiet (fail)
           try go_wp2
           go_meet
           case rel=>exact ⟨rfl,⟨HMB.out.drewN nq⟩⟩
          case rest =>
           obtain ⟨rfl,HMc⟩:=hcut
           clear HMB
           have HMB:=HMc
           clear HMc
           obtain ⟨lb,hlb⟩:∃ b,b=isLast a2 e (l1.drop (i+1)):=⟨_,rfl⟩
           obtain ⟨R,hR⟩:∃ R,R=endR l0 a2 e (l1.drop (i+1)):=⟨_,rfl⟩
           have HRN:=Aside0.mk (show (lb=false→R=E0+D0)∧(lb=true→R=min l0.length (E0+D0+a2.toNat)) by
            have h1:=HEN.out
            have h2:=HDN.out
            have h3:=HA.out
            rw [hR,hlb]
            unfold endR toH
            constructor
            ·intro h;rw [if_neg (by rw [h];simp)];omega
            ·intro h;rw [if_pos h];show min l0.length (e.f0+e.f1+a2).toNat=_;omega)
           have HRE:=Aside0.mk hR
           have HLBN:=Aside0.mk hlb
           have HRB:=Aside0.mk (show E0+D0≤R∧R≤l0.length by
            have h:=HRN.out
            cases lb with
            | false=>have:=h.1 rfl;omega
            | true=>have:=h.2 rfl;omega)
           clear hR hlb
           go_upto_region 29 with (fail)
           go_cut [18] (fun v18 wc=>∃ zb:Bool,v18=.bool zb∧Aside0 (zb=decide (i+1=l1.length))∧Aside0 (MBox w W0 w.heap.size oki (.slice Ai hk.f4.length ci) g2 hk.f0 hk.f1 hk.f2 hk.f3 (.slice A L3.length c) L3 wc)) -- DONE
           case first=>as_aux_lemma =>
            obtain ⟨lm,hlm⟩:∃ z:Int,z=(l1.length:Int) - 1:=⟨_,rfl⟩
            have k1:IntKind.i64.wrap ((l1.length:Int) - 1)=lm:=by rw [hlm];exact IntWalk.i64_in _ (by omega)
            have k2:((i:Int) == lm)=decide (i+1=l1.length):=by rw [Bool.eq_iff_iff,beq_iff_eq,decide_eq_true_iff];omega
            clear hlm
            go_wp2
            go_meet
            case rel=>exact ⟨_,rfl,⟨rfl⟩,HMB⟩
           case rest =>
            obtain ⟨zb,rfl,HZ,HMc⟩:=hcut
            clear HMB
            have HMB:=HMc
            clear HMc
            go_upto_if 174 with (fail)
            go_cut [18] (fun v18 wc=>v18=.bool lb∧Aside0 (MBox w W0 w.heap.size oki (.slice Ai hk.f4.length ci) g2 hk.f0 hk.f1 hk.f2 hk.f3 (.slice A L3.length c) L3 wc)) -- DONE
            case first=>as_aux_lemma =>
             cases zb with
             | true =>
              have hz:i+1=l1.length:=of_decide_eq_true HZ.out.symm
              have k2:lb=true:=by rw [HLBN.out,List.drop_of_length_le (by omega)];rfl
              subst k2
              clear hz
              go_wp2
              go_meet
              case rel=>exact ⟨rfl,HMB⟩
             | false =>
              have hz:¬ i+1=l1.length:=of_decide_eq_false HZ.out.symm
              have hi1:i+1<l1.length:=by omega
              obtain ⟨q,hq⟩:∃ q,q=l1[i+1]'hi1:=⟨_,rfl⟩
              have hME:MEd l0 l1 (i+1) q:=by rw [hq];exact med HS.out HOK.out.symm (i+1) hi1
              obtain ⟨j,hj⟩:∃ j:Int,j=(i:Int)+1:=⟨_,rfl⟩
              have kj:IntKind.i64.wrap ((i:Int)+1)=j:=by rw [hj];exact IntWalk.i64_in _ (by omega)
              have j0':0≤j:=by omega
              have j1':j<(l1.length:Int):=by omega
              obtain ⟨ad,A2,c2,e0,hx0,hx1,hx2,hl,hi2⟩:=at_T53 (Kd.C_below HR1.out HMB.out.bel) j j0' j1'
              cases e0
              rw [show rd_T53 l1 j=q from by rw [show j=((i+1:Nat):Int) by omega];exact hME.at_] at hx0
              have b1:=hE0.out
              have b2:=hME.h0
              have b3:=hME.h2
              have b4:=hME.h1
              have b5:=HA.out
              have b6:=HEN.out
              have b7:=HDN.out
              obtain ⟨z1,hz1⟩:∃ z:Int,z=q.f0 - ((E0+D0:Nat):Int):=⟨_,rfl⟩
              obtain ⟨z2,hz2⟩:∃ z:Int,z=2 * a2:=⟨_,rfl⟩
              have k3:IntKind.i64.wrap (q.f0 - ((E0+D0:Nat):Int))=z1:=by rw [hz1];exact IntWalk.i64_in _ (by omega)
              have k3':IntKind.i64.wrap (q.f0 - ((E0:Int)+(D0:Int)))=z1:=by rw [hz1];have:=IntWalk.i64_in (q.f0 - ((E0:Int)+(D0:Int))) (by omega);rw [this];omega
              have k5:IntKind.i64.wrap (2 * a2)=z2:=by rw [hz2];exact IntWalk.i64_in _ (by omega)
              have k6:decide (z2<z1)=lb:=by
               rw [HLBN.out,List.drop_eq_getElem_cons hi1,← hq,hz1,hz2]
               show decide _=decide _
               exact decide_eq_decide.2 (by omega)
              clear hz1 hz2 hj hq hME b1 b2 b3 b4 b5 b6 b7 hl hi2 hx1 hx2 hz
              go_wp2
              go_meet
              case rel=>exact ⟨rfl,HMB⟩
            case rest =>
             obtain ⟨rfl,HMc⟩:=hcut
             clear HMB
             have HMB:=HMc
             clear HMc
             have hRl:R≤l0.length:=HRB.out.2
             have hab:=HA.out
             go_upto_block 8 with (fail)
             go_cut [10,19] (fun v10 v19 wc=>∃ (A:Option Addr) (c:Nat) (L':List ByteArray),v10=.int .i64 (R:Int)∧Aside0 (L'=L3++sgs 32 ((l0.take R).drop (E0+D0)))∧Aside0 (MBox w W0 w.heap.size oki (.slice Ai hk.f4.length ci) g2 hk.f0 hk.f1 hk.f2 hk.f3 (.slice A L'.length c) L' wc)) -- DONE
             case first=>as_aux_lemma =>
              go_wp2_with (fail)
              go_loopg [10,19] (R - (E0+D0)) (fun kq v10 v19 wr=>∃ (x y:Nat) (A:Option Addr) (c:Nat) (L':List ByteArray),v10=.int .i64 (y:Int)∧v19=.int .i64 (x:Int)∧Aside0 (y=E0+D0+x∧y≤R∧R≤kq+y)∧Aside0 (L'=L3++sgs 32 ((l0.take y).drop (E0+D0)))∧Aside0 (MBox w W0 w.heap.size oki (.slice Ai hk.f4.length ci) g2 hk.f0 hk.f1 hk.f2 hk.f3 (.slice A L'.length c) L' wr))
              case atStart=>exact ⟨0,E0+D0,A,c,L3,by simp,rfl,⟨by have:=HRB.out;omega⟩,⟨(line_none _ _ _ _).symm⟩,HMB⟩
              case round =>
               clear HMB
               obtain ⟨x,y,A,c,L',rfl,rfl,HX,HL,HM2⟩:=hrel
               by_cases hend:y=R
               ·subst hend
                by_cases c1:(x:Int)<a2
                ·have f2:decide ((x:Int)<a2)=true:=decide_eq_true c1
                 cases lb with
                 | false =>
                  go_wp2
                  go_meet
                  case rel=>exact ⟨A,c,L',rfl,HL,HM2⟩
                 | true =>
                  have hyl:¬ y<l0.length:=by have h1:=HRN.out.2 rfl;have h2:=HX.out;omega
                  have f3:decide (y<l0.length)=false:=decide_eq_false hyl
                  clear c1
                  go_wp2
                  go_meet
                  case rel=>exact ⟨A,c,L',rfl,HL,HM2⟩
                ·have f2:decide ((x:Int)<a2)=false:=decide_eq_false c1
                 clear c1
                 go_wp2
                 go_meet
                 case rel=>exact ⟨A,c,L',rfl,HL,HM2⟩
               ·cases lb with
                | false=>exact absurd (HRN.out.1 rfl) (by have:=HX.out;omega)
                | true =>
                 obtain ⟨gk2,HG2⟩:∃ m,Aside0 (gk=m+1):=⟨gk - 1,⟨by have:=HX.out;omega⟩⟩
                 have hyl:y<l0.length:=by have:=HX.out;omega
                 have hxa:(x:Int)<a2:=by have h1:=HRN.out.2 rfl;have h2:=HX.out;omega
                 have f2:decide ((x:Int)<a2)=true:=decide_eq_true hxa
                 have f3:decide (y<l0.length)=true:=decide_eq_true hyl
                 obtain ⟨ad0,ea,hw1⟩:=at_textM HR0.out y hyl
                 cases ea
                 obtain ⟨s1,hs1e⟩:∃ s1,s1=l0[y]:=⟨_,rfl⟩
                 have hz1:1+s1.size≤9223372036854775807:=by rw [hs1e];have:=HS.out.2.2.2.1 _ (List.getElem_mem hyl);omega
                 have kc:(9223372036854775807<1+s1.size)=False:=eq_false (by omega)
                 rw [← hs1e] at hw1
                 have HS1:=Aside0.mk hw1
                 have HSE:=Aside0.mk hs1e
                 have HM3:=Aside0.mk HM2.out.drew
                 have HFR:=Aside0.mk (show ∀ k,wr.drew.heap.size≤k→oki k from fun k hk=>HOKI.out k (Nat.le_trans HM3.out.grow.size hk))
                 have hs0:wr.drew.cell? ⟨g2,4,none⟩=some (.slice A L'.length c):=(blk_cell HM3.out.box 4).trans rfl
                 have hs1:=pw_cell_below HM3.out.bel hw1
                 have hll:L'.length≤33554432:=by have h1:=HL.out;have h2:=line_len L3 32 l0 (E0+D0) y;have h4:=HLB3.out;rw [← h1] at h2;omega
                 have kx:IntKind.i64.wrap ((x:Int)+1)=(x:Int)+1:=IntWalk.i64_in _ (by omega)
                 have ky:IntKind.i64.wrap ((y:Int)+1)=(y:Int)+1:=IntWalk.i64_in _ (by omega)
                 have hx1b:(y:Int)<(l0.length:Int):=by omega
                 have HXL:=Aside0.mk (show y<R by have:=HX.out;omega)
                 clear hw1 hs1e hend hxa hab
                 go_wp2
                 refine start_ (n:=11) (S:=fun w'=>w'.cell? ⟨g2,4,none⟩=some (.slice A L'.length c)∧w'.cell? (ad0.add y)=some (.string s1)) (ds:=[10]) #[false,false,false,false,false,false,false,false,false,false,false] (by kernel_rfl) rfl rfl ⟨hs0,hs1⟩ (fun hHeld=>?_)
                 refine with_tabW gref_Make35.tab35 gref_Make35.bits35 (fun HT_ HW_=>?_)
                 generalize wr.drew=w3 at HM3 HFR hs0 hs1 hHeld ⊢
                 refine pure_ (i:=0) (N:=some 200) (v:=?_) (a':=?_) #[true,false,false,false,false,false,false,false,false,false,false] rfl rfl (any_of HT_.out (by kernel_rfl)) (fun _ _ _ h=>h) (Or.inl ⟨by rfl,?_⟩) ?_ ?_
                 rotate_left
                 ·intro w'
                  go_simp
                  with_reducible rfl
                 rotate_left
                 ·simp only [Act.put,List.setIfInBounds_toArray,List.set_cons_zero,List.set_cons_succ,i64_w,i32_w]
                  rfl
                 refine pure_ (i:=2) (N:=some 202) (v:=?_) (a':=?_) #[true,false,true,false,false,false,false,false,false,false,false] rfl rfl (any_of HT_.out (by kernel_rfl)) (fun _ _ _ h=>h) (Or.inl ⟨by rfl,?_⟩) ?_ ?_
                 rotate_left
                 ·intro w'
                  go_simp
                  with_reducible rfl
                 rotate_left
                 ·simp only [Act.put,List.setIfInBounds_toArray,List.set_cons_zero,List.set_cons_succ,i64_w,i32_w]
                  rfl
                 refine pure_ (i:=3) (N:=some 203) (v:=?_) (a':=?_) #[true,false,true,true,false,false,false,false,false,false,false] rfl rfl (any_of HT_.out (by kernel_rfl)) (fun _ _ _ h=>h) (Or.inl ⟨by rfl,?_⟩) ?_ ?_
                 rotate_left
                 ·intro w'
                  go_simp
                  with_reducible rfl
                 rotate_left
                 ·simp only [Act.put,List.setIfInBounds_toArray,List.set_cons_zero,List.set_cons_succ,i64_w,i32_w]
                  rfl
                 refine pure_ (i:=4) (N:=some 204) (v:=?_) (a':=?_) #[true,false,true,true,true,false,false,false,false,false,false] rfl rfl (any_of HT_.out (by kernel_rfl)) (fun _ _ _ h=>h) (Or.inl ⟨by rfl,?_⟩) ?_ ?_
                 rotate_left
                 ·intro w'
                  go_simp
                  with_reducible rfl
                 rotate_left
                 ·simp only [Act.put,List.setIfInBounds_toArray,List.set_cons_zero,List.set_cons_succ,i64_w,i32_w]
                  rfl
                 refine take_ (i:=1) (N:=some 201) (v:=?_) (a':=?_) #[true,true,true,true,true,false,false,false,false,false,false] rfl rfl (take_ofW HT_.out HW_.out (by kernel_rfl)) (fun _ _ _ h=>h) (Or.inl ⟨by rfl,?_⟩) hHeld ?_ ?_
                 rotate_left
                 ·rintro w' ⟨s0,s1⟩
                  go_simp
                  with_reducible rfl
                 rotate_left
                 ·simp only [Act.put,List.setIfInBounds_toArray,List.set_cons_zero,List.set_cons_succ,i64_w,i32_w]
                  rfl
                 refine take_ (i:=5) (N:=some 205) (v:=?_) (a':=?_) #[true,true,true,true,true,true,false,false,false,false,false] rfl rfl (take_ofW HT_.out HW_.out (by kernel_rfl)) (fun _ _ _ h=>h) (Or.inl ⟨by rfl,?_⟩) hHeld ?_ ?_
                 rotate_left
                 ·rintro w' ⟨s0,s1⟩
                  go_simp
                  with_reducible rfl
                 rotate_left
                 ·simp only [Act.put,List.setIfInBounds_toArray,List.set_cons_zero,List.set_cons_succ,i64_w,i32_w]
                  rfl
                 refine pure_ (i:=6) (N:=some 206) (v:=?_) (a':=?_) #[true,true,true,true,true,true,true,false,false,false,false] rfl rfl (any_of HT_.out (by kernel_rfl)) (fun _ _ _ h=>h) (Or.inl ⟨by rfl,?_⟩) ?_ ?_
                 rotate_left
                 ·intro w'
                  go_simp
                  with_reducible rfl
                 rotate_left
                 ·simp only [Act.put,List.setIfInBounds_toArray,List.set_cons_zero,List.set_cons_succ,i64_w,i32_w]
                  rfl
                 refine one_ (i:=7) (N:=some 207) #[true,true,true,true,true,true,true,true,false,false,false] rfl rfl (one_of HT_.out (by kernel_rfl)) (by decide) (fun K hK=>?_)
                 refine value_ (w1:=?_) (v:=?_) (by rfl) rfl ?_ ?_
                 rotate_left 2
                 ·go_simp
                  constructor
                  ·rfl
                  ·rfl
                 refine hK.out _ _ ⟨(pw_cell_below (below_alloc (Below.refl _ _) _) hs0),(pw_cell_below (below_alloc (Below.refl _ _) _) hs1)⟩ (fun hHeld=>?_)
                 clear hK K
                 refine norm_ (a':=?_) ?_ ?_
                 rotate_left
                 ·show Act.put _ (some 207) _=_
                  simp only [Act.put,List.setIfInBounds_toArray,List.set_cons_zero,List.set_cons_succ,i64_w,i32_w]
                  rfl
                 refine one_ (i:=8) (N:=some 208) #[true,true,true,true,true,true,true,true,true,false,false] rfl rfl (one_of HT_.out (by kernel_rfl)) (by decide) (fun K hK=>?_)
                 refine Kd.R_append_step Kd.string (w0:=w) w.heap.size (by rfl) (.tmp 201) (.tmp 207) 22 9 (.string ⟨#[]⟩) 16 rfl Try.underlying22 ginfoStrM rfl (by decide) (by omega) (.slice A L'.length c) L' ((⟨#[32]⟩:ByteArray)++s1) [.string ((⟨#[32]⟩:ByteArray)++s1)] oki (fun _=>False) rfl rfl rfl (fun _ h=>h.elim) HFR.out HM3.out.row HM3.out.bel HM3.out.bel.size (by omega) ?_
                 intro v3 w5 ho hb hg hat
                 obtain ⟨A3,c3,e3⟩:=Kd.R_slice ho
                 rw [List.length_append,List.length_singleton] at e3
                 subst e3
                 obtain ⟨hbx,hmb⟩:=HM3.out.step hg ho hb hat
                 have hc3:=(blk_cell hbx 4).trans rfl
                 have hf3:=blk_frozen hbx 4
                 have HM5:=Aside0.mk hmb
                 have hs1':=pw_cell_below hb HS1.out
                 clear ho hb hg hat hbx hmb hs0 hs1
                 refine hK.out _ _ ⟨hc3,hs1'⟩ (fun hHeld=>?_)
                 clear hK K
                 refine norm_ (a':=?_) ?_ ?_
                 rotate_left
                 ·show Act.put _ (some 208) _=_
                  simp only [Act.put,List.setIfInBounds_toArray,List.set_cons_zero,List.set_cons_succ,i64_w,i32_w]
                  rfl
                 refine pure_ (i:=9) (N:=some 209) (v:=?_) (a':=?_) #[true,true,true,true,true,true,true,true,true,true,false] rfl rfl (any_of HT_.out (by kernel_rfl)) (fun _ _ _ h=>h) (Or.inl ⟨by rfl,?_⟩) ?_ ?_
                 rotate_left
                 ·intro w'
                  go_simp
                  with_reducible rfl
                 rotate_left
                 ·simp only [Act.put,List.setIfInBounds_toArray,List.set_cons_zero,List.set_cons_succ,i64_w,i32_w]
                  rfl
                 refine last_ (i:=10) (N:=none) #[true,true,true,true,true,true,true,true,true,true,true] rfl rfl (one_of HT_.out (by kernel_rfl)) (by decide) (fun K hK=>?_)
                 refine skip_ (w1:=?_) (by rfl) rfl ?_ ?_
                 rotate_left
                 ·go_simp
                  rfl
                 refine hK.out _ _ ?_
                 clear hK K
                 refine done_ (done_of HT_.out (by kernel_rfl)) ?_

                 go_wp2
                 go_roundg gk2
                 case measure=>have:=HG2.out;omega
                 case rel =>
                  clear kx ky
                  exact ⟨x+1,y+1,A3,c3,L'++[(⟨#[32]⟩:ByteArray)++s1],by go_num,by go_num,⟨by have:=HX.out;have:=HG2.out;have:=HXL.out;omega⟩,⟨by rw [HL.out,HSE.out];exact line_in L3 32 l0 (E0+D0) y (by have:=HX.out;omega) hyl⟩,by rw [List.length_append,List.length_singleton];exact HM5⟩
             case rest =>
              clear HMB
              obtain ⟨A,c,L4,rfl,HL4,HMB⟩:=hcut
              have HLB4:=Aside0.mk (show L4.length≤33554432 by have h1:=HL4.out;have h2:=line_len L3 32 l0 (E0+D0) R;have h4:=HLB3.out;rw [← h1] at h2;omega)
              clear hab
              obtain ⟨K1,hK1⟩:=(Many_ev L4 45 (by have:=HLB4.out;omega)).rounds
              obtain ⟨K2,hK2⟩:=(Many_ev L4 43 (by have:=HLB4.out;omega)).rounds
              have HKM:=Aside0.mk (And.intro hK1 hK2)
              obtain ⟨n1,hn1⟩:∃ n:Int,n=(manyL 45 L4:Int):=⟨_,rfl⟩
              obtain ⟨n2,hn2⟩:∃ n:Int,n=(manyL 43 L4:Int):=⟨_,rfl⟩
              rw [← hn1,← hn2] at HKM
              have HN12:=Aside0.mk (And.intro hn1 hn2)
              clear hK1 hK2 hn1 hn2
              obtain ⟨hl4,hrc4⟩:=(Kd.R_reads' HMB.out.row).2
              have HRC:=Aside0.mk hrc4
              have HLC:=Aside0.mk hl4
              have hb4:wc.cell? ⟨g2,4,none⟩=some (.slice A L4.length c):=(blk_cell HMB.out.box 4).trans rfl
              have hf1':=blk_frozen HMB.out.box 1
              have hb1:wc.cell? ⟨g2,1,none⟩=some (.int .i64 hk.f1):=(blk_cell HMB.out.box 1).trans rfl
              clear hl4 hrc4
              go_upto_region 38 with (first
               | (go_at_call 32;(with_reducible refine (r05_Many.calls K1 A c L4 45 n1 _ HRC.out HLC.out HKM.out.1).mono ?_);rintro e_ w' ⟨rfl,⟨ndm,rfl⟩⟩))
              have HM1:=Aside0.mk ((HMB.out.drewN ndm).put1 n1)
              obtain ⟨hl5,hrc5⟩:=(Kd.R_reads' HM1.out.row).2
              have HRC5:=Aside0.mk hrc5
              have hd4:((wc.drewN ndm).setCell ⟨g2,1,none⟩ (.int .i64 n1)).cell? ⟨g2,4,none⟩=some (.slice A L4.length c):=(blk_cell HM1.out.box 4).trans rfl
              have hd3:((wc.drewN ndm).setCell ⟨g2,1,none⟩ (.int .i64 n1)).cell? ⟨g2,3,none⟩=some (.int .i64 hk.f3):=(blk_cell HM1.out.box 3).trans rfl
              have hf3':=blk_frozen HM1.out.box 3
              clear hl5 hrc5
              generalize (wc.drewN ndm).setCell ⟨g2,1,none⟩ (.int .i64 n1)=W2 at HM1 HRC5 hd4 hd3 hf3' ⊢
              clear hb4 hf1' hb1 HRC HMB
              go_upto_region 39 with (first
               | (go_at_call 32;(with_reducible refine (r05_Many.calls K2 A c L4 43 n2 _ HRC5.out HLC.out HKM.out.2).mono ?_);rintro e_ w' ⟨rfl,⟨ndk,rfl⟩⟩))
              have HM5:=Aside0.mk ((HM1.out.drewN ndk).put3 n2)
              clear hd4 hd3 hf3' HM1 HRC5
              generalize (W2.drewN ndk).setCell ⟨g2,3,none⟩ (.int .i64 n2)=W3 at HM5 ⊢
              obtain ⟨hcc',hfz',hS',hg'⟩:=HBACK.out W3 (.slice A L4.length c) (hunkR hk L4) HM5.out.grow HM5.out.row
              have HSB:=Aside0.mk hS'
              have p0:W3.cell? ⟨g2,0,none⟩=some (.int .i64 hk.f0):=(blk_cell HM5.out.box 0).trans rfl
              have p1:W3.cell? ⟨g2,1,none⟩=some (.int .i64 n1):=(blk_cell HM5.out.box 1).trans rfl
              have p2:W3.cell? ⟨g2,2,none⟩=some (.int .i64 hk.f2):=(blk_cell HM5.out.box 2).trans rfl
              have p3:W3.cell? ⟨g2,3,none⟩=some (.int .i64 n2):=(blk_cell HM5.out.box 3).trans rfl
              have p4:W3.cell? ⟨g2,4,none⟩=some (.slice A L4.length c):=(blk_cell HM5.out.box 4).trans rfl
              have q0:W3.cell? ⟨g,jl.toNat * 5,none⟩=some (.int .i64 hk.f0):=hcc' 0 _ rfl
              have q1:W3.cell? ⟨g,jl.toNat * 5+1,none⟩=some (.int .i64 hk.f1):=hcc' 1 _ rfl
              have q2:W3.cell? ⟨g,jl.toNat * 5+2,none⟩=some (.int .i64 hk.f2):=hcc' 2 _ rfl
              have q3:W3.cell? ⟨g,jl.toNat * 5+3,none⟩=some (.int .i64 hk.f3):=hcc' 3 _ rfl
              have q4:W3.cell? ⟨g,jl.toNat * 5+4,none⟩=some (.slice Ai hk.f4.length ci):=hcc' 4 _ rfl
              have r0:W3.frozen? ⟨g,jl.toNat * 5,none⟩=false:=hfz' 0
              have r1:W3.frozen? ⟨g,jl.toNat * 5+1,none⟩=false:=hfz' 1
              have r2:W3.frozen? ⟨g,jl.toNat * 5+2,none⟩=false:=hfz' 2
              have r3:W3.frozen? ⟨g,jl.toNat * 5+3,none⟩=false:=hfz' 3
              have r4:W3.frozen? ⟨g,jl.toNat * 5+4,none⟩=false:=hfz' 4
              clear hcc' hfz' hS' hg'
              go_wp2_with (first
               | ((with_reducible refine gate_store (t:=41) (p:=225) rfl ?_);refine store_event (t:=41) (p:=225) (v:=?vo_) (w1:=(((((W3.setCell ⟨g,jl.toNat * 5,none⟩ (.int .i64 hk.f0)).setCell ⟨g,jl.toNat * 5+1,none⟩ (.int .i64 n1)).setCell ⟨g,jl.toNat * 5+2,none⟩ (.int .i64 hk.f2)).setCell ⟨g,jl.toNat * 5+3,none⟩ (.int .i64 n2)).setCell ⟨g,jl.toNat * 5+4,none⟩ (.slice A L4.length c))) ?hg ?ho ?hn ?hr ?_;(case ho=>rfl);(case hg=>rfl);(case hn=>rfl);(case hr=>first|(go_simp;done)|(go_simp;rfl));intro w7 hw;have HW7:=Aside0.mk (show w7=setH W3 g (jl.toNat * 5) hk.f0 n1 hk.f2 n2 (.slice A L4.length c) from hw);clear hw q0 q1 q2 q3 q4 r0 r1 r2 r3 r4 p0 p1 p2 p3 p4))
              go_roundg gk'
              case measure=>have:=HG.out;omega
              case rel =>
               have hL4:L4=linesR l0 a2 (hkLast out').f4 (fromR a2 pv t e) e (l1.drop (i+1)):=by
                have e1:e.f0.toNat=E0:=by have:=HEN.out;omega
                have e2:(e.f0+e.f1).toNat=E0+D0:=by have h1:=HEN.out;have h2:=HDN.out;omega
                rw [linesR,← HRE.out,e1,e2,← HHK.out,← HTO.out.1,HL4.out,HL3.out,HL2.out,HL1.out]
                simp only [List.append_assoc]
               have hset:(openR a2 pv out more e).set ((openR a2 pv out more e).length - 1) (hunkR (hkLast (openR a2 pv out more e)) (linesR l0 a2 (hkLast (openR a2 pv out more e)).f4 (fromR a2 pv t e) e (l1.drop (i+1))))=hkSet out' (hunkR hk L4):=by
                rw [← HTO.out.2,← hL4,← HHK.out];rfl
               have hgo:=HW.out.goes
               rw [← HPV.out,HE.out.dr,makeR,hset,← HRE.out,← HM2N.out] at hgo
               refine ⟨i+1,R,m2,hkSet out' (hunkR hk L4),by go_num,rfl,by go_num,⟨by have:=HQ.out;have:=HG.out;omega⟩,⟨?_⟩⟩
               refine ⟨by omega,?_,fun _ hn=>?_,?_,?_,HRB.out.2,?_,fun _=>?_,?_,?_⟩
               ·rw [if_neg (by omega),show l1.getD (i+1 - 1) ⟨0,0,[]⟩=e from by rw [Nat.add_sub_cancel,List.getD_eq_getElem?_getD,List.getElem?_eq_getElem h0,HEI.out];rfl]
                exact hgo
               ·have h1:=congrArg List.length hn
                rw [hkSet_len] at h1
                simp only [List.length_nil] at h1
                omega
               ·rw [hkSet_len,HTO.out.2];have h1:=openR_len a2 pv out more e;have h2:=HOL.out;omega
               ·have h:=HSB.out
                unfold setH at h
                rw [HN12.out.1,HN12.out.2]
                exact h
               ·intro h1 _ hf
                rw [show l1.getD (i+1 - 1) ⟨0,0,[]⟩=e from by rw [Nat.add_sub_cancel,List.getD_eq_getElem?_getD,List.getElem?_eq_getElem h0,HEI.out];rfl] at hf
                have h2:lb=false:=by rw [HLBN.out,List.drop_eq_getElem_cons h1];exact isLast_next hf
                have h3:=HRN.out.1 h2
                have h4:=okFrom_next l1 0 i h1 HOK.out.symm
                rw [← HEI.out] at h4
                have h5:=HEN.out
                have h6:=HDN.out
                omega
               ·rw [hkLast_set _ _ HNE.out]
                show L4.length≤_
                have h1:=HE.out.tk
                have h2:=line_len L3 32 l0 (E0+D0) R
                have h3:=line_len L1 45 l0 E0 (E0+D0)
                have h4:=line_len hk.f4 32 l0 t' E0
                have h5:L3.length=L2.length+e.f2.length:=by rw [HL3.out];simp [sgs]
                have h6:=hlb0.out
                have h7:=HTE.out
                have h8:=HRB.out
                rw [← HL4.out] at h2
                rw [← HL2.out] at h3
                rw [← HL1.out] at h4
                omega
               ·rw [HE.out.td,HM2N.out,HW.out.moreb]
               ·exact below_set (below_set (below_set (below_set (below_set HM5.out.bel GB.out) GB.out) GB.out) GB.out) GB.out
  ·have e1:=H.out
   rw [if_neg hg] at e1
   obtain ⟨rfl,rfl⟩:=Prod.mk.inj e1
   rw [show (decide (¬ (okr=true∧0≤a2∧a2≤1000)))=true from decide_eq_true hg]
   clear e1 hg
   go_wp2
   go_ret2
   exact ⟨_,rfl,Kd.S_nil _ _ _ _ _,pw_below_drewN (Below.refl _ _) _⟩
end Go.Proofs.Ytoaijganmfijmaa.Pr
-- shrunk
