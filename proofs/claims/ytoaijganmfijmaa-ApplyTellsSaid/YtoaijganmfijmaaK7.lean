/-
Several plain texts in one.
-/
import Derived.Test.YtoaijganmfijmaaK5
import Derived.Test.YtoaijganmfijmaaK6
import Derived.Test.YtoaijganmfijmaaK4
import Derived.Test.YtoaijganmfijmaaK0
import Derived.Test.YtoaijganmfijmaaD11
import Derived.Test.YtoaijganmfijmaaK2
import Derived.Deep.Strs
import Derived.SizedLaws
import Derived.ChangeOld
import Derived.Carry
import Derived.Test.YtoaijganmfijmaaWWords
import Derived.Test.YtoaijganmfijmaaWMore
import Derived.Test.YtoaijganmfijmaaWLast
import Derived.KernelRfl
set_option linter.unusedVariables false
set_option linter.unusedSimpArgs false
/-
The chapter's example of layer 7: it answers true.
-/
namespace Go.Proofs.Ytoaijganmfijmaa.Pr
open Go.RowKit Go.Proofs.YtoaijganmfijmaaW.PrintWords Go.Proofs.YtoaijganmfijmaaW.PrintLast Go.Proofs.YtoaijganmfijmaaW.PrintMore
def l07_awake.f:Option Bool:=some true
def ex1:ByteArray:=⟨#[97]⟩
def ex2:ByteArray:=⟨#[98]⟩
def ex3:ByteArray:=⟨#[99]⟩
def exP:Ed:=⟨0,1,[ex2]⟩
def exQ:Hk:=⟨0,1,0,1,blkLines [⟨[],[ex1],[ex2]⟩] []⟩
theorem exQ_eq:exQ=⟨0,1,0,1,[(⟨#[45,97]⟩:ByteArray),(⟨#[43,98]⟩:ByteArray)]⟩:=by
 have hl:blkLines [⟨[],[ex1],[ex2]⟩] []=[(⟨#[45,97]⟩:ByteArray),(⟨#[43,98]⟩:ByteArray)]:=by decide
 rw [exQ,hl]
theorem exOk:BOk true [⟨[],[ex1],[ex2]⟩]:=⟨Or.inl (by simp),Or.inl rfl,trivial⟩
theorem exTakes:Takes [ex1] [ex2] 0 0 [exQ]:=by
 refine ⟨0,0,[⟨[],[ex1],[ex2]⟩],[],⟨rfl,Nat.le_refl _,Nat.le_refl _,?_,?_,rfl,?_,?_,exOk⟩,?_⟩
 ·simp [oldN]
 ·simp [newN]
 ·simp [oldN,oldL]
 ·simp [newN,newL]
 refine ⟨?_,?_,?_⟩<;>simp [oldN,newN]
theorem exBetween:between [ex1] [ex2]=[exP]:=by
 have e:¬ ex1=ex2:=by decide
 simp [between,midEdits,midOf,endOf,frontOf,common,steps,lcsLen,edits,addDel,addIns,opened,edLast,e,exP]
theorem exMake:makeH [ex1] 0 0 [exP]=[exQ]:=by
 have e1:fromH exP 0=0:=rfl
 have e2:toH [ex1] exP [] 0=1:=rfl
 have e3:linesH [ex1] 0 exP []=blkLines [⟨[],[ex1],[ex2]⟩] []:=rfl
 rw [makeH,grp,makeH,hunkOf,e1,e2,e3]
 rfl
theorem exLines:exQ.f4.length=2:=by rw [exQ_eq];rfl
theorem exSmall (a:List ByteArray) (h:a.length≤65536):SmallA a [exQ]:=by
 refine ⟨h,by simp,fun x hx=>?_⟩
 rw [List.mem_singleton] at hx
 subst hx
 exact ⟨by rw [exLines];omega,by decide,by decide,by decide,by decide⟩
theorem exYes:apply_Apply.f [ex1] [exQ]=some ([ex2],0):=by
 rw [apply_Apply.f,if_pos (exSmall _ (by simp)),takes_applyP exTakes]
theorem exNo:apply_Apply.f [ex3] [exQ]=some ([],6):=by
 have hr:=takes_right _ _ _ _ _ exTakes
 have h:=(exact_all [ex1] [ex2] 0 ex3 (by simp) (by decide) [exQ] 0 0 [] exTakes (Nat.le_refl _)).1 ⟨exQ,List.mem_singleton.2 rfl,by decide,by decide⟩
 have e:[ex1].set 0 ex3=[ex3]:=rfl
 rw [e] at h
 rw [apply_Apply.f,if_pos (exSmall _ (by simp)),applyP,if_pos (by simpa using hr),h]
theorem exBig:BigL [exQ]:=by
 intro x hx
 rw [List.mem_singleton] at hx
 subst hx
 refine ⟨by rw [exLines];omega,fun s hs=>?_⟩
 rw [exQ_eq] at hs
 simp only [List.mem_cons,List.not_mem_nil,or_false] at hs
 rcases hs with rfl|rfl<;>show 2≤_<;>omega
theorem awake_ev:Ev (fun k=>l07_awake0.f k) true:=by
 unfold l07_awake0.f
 rw [← exQ_eq,show (⟨#[97]⟩:ByteArray)=ex1 from rfl,show (⟨#[98]⟩:ByteArray)=ex2 from rfl,show (⟨#[99]⟩:ByteArray)=ex3 from rfl]
 have hm:=Make_ev [ex1] [exP] 0 (by simp) (by simp) (by intro s hs;rw [List.mem_singleton] at hs;subst hs;show 1≤_;omega) (by intro e he s hs;rw [List.mem_singleton] at he;subst he;rw [exP,List.mem_singleton] at hs;subst hs;show 1≤_;omega) (by omega) (by omega) (by decide) (by decide)
 rw [exMake] at hm
 have hb:Ev (fun k=>apply_Between.f k [ex1] [ex2] 0) ([exQ],0):=by
  unfold apply_Between.f
  refine Ev.bind (a:=[exP]) (Ev.none_of fun _=>by rw [diff_Diff.f,if_pos (by simp),exBetween]) ?_
  refine Ev.bind hm ?_
  exact Ev.now _
 have hr:=takes_right _ _ _ _ _ exTakes
 refine Ev.bind (Ev.none_of fun _=>rfl) ?_
 refine Ev.bind (Ev.none_of fun _=>exYes) ?_
 refine Ev.bind (Ev.none_of fun _=>exNo) ?_
 refine Ev.bind hb ?_
 simp only [if_true]
 have ht:=Texts_ev [ex2] [ex2] (by simp)
 rw [decide_eq_true rfl] at ht
 refine Ev.bind ht ?_
 simp only [if_true]
 refine Ev.bind (SameH_ev [exQ] (by simp) (by intro x hx;rw [List.mem_singleton] at hx;subst hx;rw [exLines];omega)) ?_
 simp only [if_true]
 have hri:=ARight_ev (exSmall [ex1] (by simp))
 rw [show rightP 0 0 [exQ]=true by simpa using hr] at hri
 refine Ev.bind hri ?_
 simp only [if_true]
 obtain ⟨m,hm1,hm2⟩:=takes_turn _ _ _ _ _ exTakes
 refine Ev.bind (ATurn_ev (exSmall [ex1] (by simp)) exBig (by simpa using hr) hm1) ?_
 rw [turned_len hm1]
 exact Ev.now _
theorem l07_awake.calls (r:Bool) (w:World) (h:l07_awake.f=some r) :
  Calls Try.prog 10 #[] w fun e w'=>e=.returned (.bool r)∧Below w.heap.size w w':=by
 obtain rfl:true=r:=Option.some.inj h
 obtain ⟨k,hk⟩:=awake_ev.rounds
 exact l07_awake0.calls k true w ⟨rfl⟩ hk
end Go.Proofs.Ytoaijganmfijmaa.Pr
-- shrunk
/-
How many lines hunks make.
-/
namespace Go.Proofs.Ytoaijganmfijmaa.Pr
open Go.RowKit Go.Proofs.YtoaijganmfijmaaW.PrintWords Go.Proofs.YtoaijganmfijmaaW.PrintLast Go.Proofs.YtoaijganmfijmaaW.PrintMore
theorem allP_len (a:List ByteArray) (ha:a.length≤65536):∀ (l:List Hk) (d:Nat) (out o:List ByteArray) (p:Nat),(∀ h ∈ l,h.f4.length≤65536)→allP a d out l=some (o,p)→o.length≤out.length+l.length * 131072
 | [],d,out,o,p,_,h=>by
  rw [allP] at h
  simp only [Option.some.injEq,Prod.mk.injEq] at h
  rw [← h.1];simp
 | x :: l,d,out,o,p,hl,h=>by
  rw [allP] at h
  cases e:oneP a d x.f0 x.f4 out with
  | none=>rw [e] at h;cases h
  | some q =>
   rw [e] at h
   have ih:=allP_len a ha l q.2 q.1 o p (fun h hh=>hl h (List.mem_cons_of_mem _ hh)) h
   have hx:=hl x List.mem_cons_self
   unfold oneP at e
   by_cases c:x.f0≤a.length
   ·rw [if_pos c] at e
    have:=(lineP_le a x.f4 _ _ q.1 q.2 (by omega) e).2
    rw [List.length_append,List.length_drop,List.length_take] at this
    rw [List.length_cons]
    omega
   ·rw [if_neg c] at e;cases e
theorem applyP_len {a:List ByteArray} {l:List Hk} (hs:SmallA a l):(applyP a l).1.length≤1073741824:=by
 unfold applyP
 by_cases c:rightP 0 0 l=true
 rotate_left
 ·rw [if_neg c];simp
 rw [if_pos c]
 cases e:allP a 0 [] l with
 | none=>simp
 | some q =>
  have h:=allP_len a hs.1 l 0 [] q.1 q.2 (fun h hh=>(hs.2.2 h hh).1) e
  have h1:=hs.1
  have h2:=hs.2.1
  simp only [List.length_append,List.length_drop,List.length_nil] at h ⊢
  omega
theorem apply_some {a:List ByteArray} {l:List Hk} (hs:SmallA a l):apply_Apply.f a l=some (applyP a l):=by rw [apply_Apply.f,if_pos hs]
end Go.Proofs.Ytoaijganmfijmaa.Pr
-- shrunk
-- written by a program of this session's (a turned copy of the kit's printer); Lean checks it
namespace Go.Proofs.Ytoaijganmfijmaa.Pr
open Go.RowKit Go.Proofs.YtoaijganmfijmaaW.PrintWords Go.Proofs.YtoaijganmfijmaaW.PrintLast Go.Proofs.YtoaijganmfijmaaW.PrintMore
attribute [local go_sem] max2_int min2_int max_two min_two max_three min_three max_four min_four   -- for this text's walks alone

def r07_Turn.l0:Nat→List (S41)→Bool→List (S41)→Int→Option ((List (S41)))
 | 0,_,_,_,_=>none
 | k+1,x0,x3,x4,x5=>if x5<(x0.length:Int) then (if x3=true then (if 0≤x5 then ((r05_Turn.f k ((rd_T41 x0 x5).f0) ((rd_T41 x0 x5).f1) ((rd_T41 x0 x5).f2) ((rd_T41 x0 x5).f3) ((rd_T41 x0 x5).f4)).bind fun bt346=>(if x4.length<2513169434916 then (r07_Turn.l0 k x0 x3 (x4++[(⟨bt346.1,bt346.2.1,bt346.2.2.1,bt346.2.2.2.1,bt346.2.2.2.2⟩:S41)]) (wrap64 (x5+1))) else (none))) else (none)) else (some x4)) else (some x4)
def r07_Turn.f (k:Nat) (l0:List (S41)):Option ((List (S41))):=(r07_Right.f k l0).bind fun t344=>(r07_Turn.l0 k l0 t344 ([]:List (S41)) 0)
theorem r07_Turn.mono_l:∀ k,(∀ y0 y1 y2 y3,LeO (r07_Turn.l0 k y0 y1 y2 y3) (r07_Turn.l0 (k+1) y0 y1 y2 y3))
 | 0=>fun _ _ _ _ r h=>by simp [r07_Turn.l0] at h
 | k+1=>by
  have ih0:=r07_Turn.mono_l k
  ·intro y0 y1 y2 y3
   unfold r07_Turn.l0
   repeat' first
   | (with_reducible exact ih0 _ _ _ _)
   | (with_reducible exact r05_Turn.mono _ _ _ _ _ _)
   | (with_reducible exact r07_Right.mono _ _)
   | (with_reducible exact LeO.refl _)
   | (with_reducible exact LeO.none _)
   | (with_reducible refine LeO.ite ?_ ?_)
   | (with_reducible refine LeO.bind ?_ (fun _=>?_))
   | exact ih0 _ _ _ _
   | exact r05_Turn.mono _ _ _ _ _ _
   | exact r07_Right.mono _ _
   | exact LeO.none _
   | refine LeO.ite ?_ ?_
   | refine LeO.bind ?_ (fun _=>?_)
theorem r07_Turn.mono:∀ a0 k,LeO (r07_Turn.f k a0) (r07_Turn.f (k+1) a0):=by
 intro a0 k
 have ih0:=r07_Turn.mono_l k
 unfold r07_Turn.f
 repeat' first
   | (with_reducible exact ih0 _ _ _ _)
   | (with_reducible exact r05_Turn.mono _ _ _ _ _ _)
   | (with_reducible exact r07_Right.mono _ _)
   | (with_reducible exact LeO.refl _)
   | (with_reducible exact LeO.none _)
   | (with_reducible refine LeO.ite ?_ ?_)
   | (with_reducible refine LeO.bind ?_ (fun _=>?_))
   | exact ih0 _ _ _ _
   | exact r05_Turn.mono _ _ _ _ _ _
   | exact r07_Right.mono _ _
   | exact LeO.none _
   | refine LeO.ite ?_ ?_
   | refine LeO.bind ?_ (fun _=>?_)
set_option maxHeartbeats 8000000 in
set_option maxRecDepth 100000 in
theorem r07_Turn.calls (k:Nat) (A0:Option Addr) (c0:Nat) (l0:List (S41)) (r:List (S41)) (w:World) (hr0:Kd.C k41 w A0 l0.length l0) (hc0:l0.length≤c0) (h:r07_Turn.f k l0=some r) :
  Calls Try.prog 19 #[.slice A0 l0.length c0] w fun e w'=>∃ v0_:Value,e=.returned (v0_)∧Kd.S k41 41 w' w.heap.size (fun _=>True) v0_ r∧Below w.heap.size w w':=by
 have hu41:=Try.underlying41
 have HR0:=Aside0.mk hr0
 have HC0:=Aside0.mk hc0
 clear hr0 hc0
 have HB:=Aside0.mk (Below.refl w.heap.size w)
 have H:((r07_Right.f k l0).bind fun t344=>(r07_Turn.l0 k l0 t344 ([]:List (S41)) 0))=some r:=h
 clear h
 replace H:=Option.bind_eq_some_iff.mp H
 obtain ⟨t344,A20,H⟩:=H
 replace H:(r07_Turn.l0 k l0 t344 ([]:List (S41)) 0)=some r:=H
 have A2:=Aside0.mk A20
 clear A20
 have H':=Aside0.mk H
 clear H
 go_enter Try.func19,Try.ntmps19
 go_wp2_with (((with_reducible refine gate_callee (f:=16) rfl ?_);refine goesL_ (some 7) rfl rfl Try.func16 (by kernel_rfl) rfl #[.slice A0 l0.length c0] rfl (by (try simp only [List.map_toArray,List.map_cons,List.map_nil]);first|done|rfl|(simp only [List.length_drop,List.length_take];rfl)) ?_;(with_reducible refine (r07_Right.calls k _ _ l0 t344 _ ?side1 ?side2 A2.out).mono ?_);(case side1=>repeat (first|exact HR0.out|(with_reducible refine Kd.C_alloc ?_ _)|(with_reducible refine Kd.C_drewN ?_ _)|(with_reducible refine Kd.C_drew ?_)));(case side2=>exact HC0.out);rintro e w3 ⟨rfl,hb⟩;refine ⟨_,rfl,?_⟩;have n0_:=Aside0.mk (below_step bel hb);clear HB;have HB:=n0_;clear n0_;(try clear hb);(try clear hb2);(try clear hk);(try clear hi)))
 go_loopg [4,5] k (fun kq v4 v5 w'=>∃ (x4_1:List (S41)) (x5_1:Int),v5=.int .i64 x5_1∧Aside0 (r07_Turn.l0 kq l0 t344 x4_1 x5_1=some r)∧Aside0 (kq≤k)∧Aside0 (Kd.S k41 41 w' w.heap.size (fun _=>True) v4 x4_1)∧Aside0 (Below w.heap.size w w'))
 case atStart=>exact ⟨(([]:List (S41))),(0),rx,H',⟨Nat.le_refl _⟩,⟨by first|exact Kd.S_nil _ _ _ _ _|exact Kd.N_nil _ _ _ _ _|exact Kd.V_nil _ _ _ _ _|exact Kd.Q_nil _ _ _ _ _|exact Kd.R_nil _ _ _ _ _⟩,⟨by repeat (first|(with_reducible first|exact HB.out|apply below_alloc|apply pw_below_drewN|apply below_drew1)|exact HB.out)⟩⟩
 case round =>
  clear H'
  try clear c1
  try clear p2
  obtain ⟨x4_1,x5_1,rfl,HA,HK1,HO_4,HB⟩:=hrel
  cases gk with
  | zero=>exact absurd HA.out (by simp [r07_Turn.l0])
  | succ k1 =>
   have H:=HA.out
   clear HA
   simp only [r07_Turn.l0] at H
   by_cases c4:x5_1<(l0.length:Int)
   ·rw [if_pos c4] at H
    have c4b0:decide (x5_1<(l0.length:Int))=true:=decide_eq_true c4
    clear c4
    by_cases c5:t344=true
    ·subst c5
     have H1:(if 0≤x5_1 then ((r05_Turn.f k1 ((rd_T41 l0 x5_1).f0) ((rd_T41 l0 x5_1).f1) ((rd_T41 l0 x5_1).f2) ((rd_T41 l0 x5_1).f3) ((rd_T41 l0 x5_1).f4)).bind fun bt346=>(if x4_1.length<2513169434916 then (r07_Turn.l0 k1 l0 true (x4_1++[(⟨bt346.1,bt346.2.1,bt346.2.2.1,bt346.2.2.2.1,bt346.2.2.2.2⟩:S41)]) (wrap64 (x5_1+1))) else (none))) else (none))=some r:=by rw [if_pos rfl] at H;exact H
     clear H
     have H:=H1
     clear H1
     by_cases c6:0≤x5_1
     ·rw [if_pos c6] at H
      have c6b0:decide (0≤x5_1)=true:=decide_eq_true c6
      clear c6
      replace H:=Option.bind_eq_some_iff.mp H
      obtain ⟨⟨t346,t347,t348,t349,t350⟩,A70,H⟩:=H
      replace H:(if x4_1.length<2513169434916 then (r07_Turn.l0 k1 l0 true (x4_1++[(⟨t346,t347,t348,t349,t350⟩:S41)]) (wrap64 (x5_1+1))) else (none))=some r:=H
      have A7:=Aside0.mk A70
      clear A70
      by_cases c8:x4_1.length<2513169434916
      ·rw [if_pos c8] at H
       have LMc8:=Aside0.mk c8
       clear c8
       obtain ⟨y353,hy353⟩:∃ y_:List (S41),y_=(x4_1++[(⟨t346,t347,t348,t349,t350⟩:S41)]):=⟨_,rfl⟩
       replace H:(r07_Turn.l0 k1 l0 true y353 (wrap64 (x5_1+1)))=some r:=by first|(rw [hy353];with_reducible exact H)|(have H2_:=(Option.bind_some _ _).symm.trans H;rw [hy353];with_reducible exact H2_)|(have H2_:=(Option.bind_some _ _).symm.trans H;with_reducible exact H2_)|with_reducible exact H|(rw [hy353];exact H)|exact H
       have Ny353:=Aside0.mk hy353
       clear hy353
       have H':=Aside0.mk H
       clear H
       have p345:0≤(x5_1:Int):=of_decide_eq_true asm
       have q345:x5_1<(l0.length:Int):=of_decide_eq_true asm
       obtain ⟨ad345,A345_4,c345_4,e345,hx345_0,hx345_1,hx345_2,hx345_3,hx345_4,hl345_4,hi345_4⟩:=at_T41 HR0.out x5_1 p345 q345
       cases e345
       replace hx345_0:=pw_cell_below HB.out hx345_0
       replace hx345_1:=pw_cell_below HB.out hx345_1
       replace hx345_2:=pw_cell_below HB.out hx345_2
       replace hx345_3:=pw_cell_below HB.out hx345_3
       replace hx345_4:=pw_cell_below HB.out hx345_4
       have HR345_4:=Aside0.mk hi345_4
       have HC345_4:=Aside0.mk hl345_4
       clear hi345_4 hl345_4
       replace p345:=eq_true p345
       replace q345:=eq_true q345
       go_wp2_with (first|((with_reducible refine gate_callee (f:=28) rfl ?_);refine goesL_ (some 22) rfl rfl Try.func28 (by kernel_rfl) rfl #[.agg #[.int .i64 ((rd_T41 l0 x5_1).f0),.int .i64 ((rd_T41 l0 x5_1).f1),.int .i64 ((rd_T41 l0 x5_1).f2),.int .i64 ((rd_T41 l0 x5_1).f3),.slice A345_4 ((rd_T41 l0 x5_1).f4).length c345_4]] rfl (by (try simp only [List.map_toArray,List.map_cons,List.map_nil]);first|done|rfl|(simp only [List.length_drop,List.length_take];rfl)) ?_;(with_reducible refine (r05_Turn.calls k1 ((rd_T41 l0 x5_1).f0) ((rd_T41 l0 x5_1).f1) ((rd_T41 l0 x5_1).f2) ((rd_T41 l0 x5_1).f3) _ _ ((rd_T41 l0 x5_1).f4) t346 t347 t348 t349 t350 _ ?side1 ?side2 A7.out).mono ?_);(case side1=>repeat (first|exact (Kd.C_below HR345_4.out HB.out)|(with_reducible refine Kd.C_alloc ?_ _)|(with_reducible refine Kd.C_drewN ?_ _)|(with_reducible refine Kd.C_drew ?_)));(case side2=>exact HC345_4.out);rintro e w9 ⟨v351,rfl,ho0,hb⟩;refine ⟨_,rfl,?_⟩;have n0_:=Aside0.mk (Kd.S_elder' (by (with_reducible repeat (first|apply Kd.S_alloc|apply Kd.S_drewN|apply Kd.S_drew));exact HO_4.out) (Kd.R_base ho0) hb);have n1_:=Aside0.mk (Kd.R_lower ho0 (below_size bel));have n2_:=Aside0.mk (below_step bel hb);clear HO_4;clear HB;have HO_4:=n0_;have HO352:=n1_;have HB:=n2_;clear n0_ n1_ n2_;(try clear hb);(try clear hb2);(try clear hk);(try clear hi);(try clear ho0);obtain ⟨Ao11,co11,eo11⟩:=Kd.R_slice HO352.out;subst eo11)|((with_reducible refine gate_builtin (b:=.append) (xs:=#[.tmp 17,.tmp 23]) rfl ?_);at_builtin;refine Kd.S_append k41 (w0:=w) w.heap.size rfl (.tmp 17) (.tmp 23) 23 41 (.agg #[(.int .i64 0),(.int .i64 0),(.int .i64 0),(.int .i64 0),(.slice none 0 0)]) 56 rfl Try.underlying23 info41 rfl (by decide) (by omega) u4 x4_1 (⟨t346,t347,t348,t349,t350⟩:S41) [.int .i64 t346,.int .i64 t347,.int .i64 t348,.int .i64 t349,.slice Ao11 t350.length co11] (fun _=>True) (fun k_=>some k_=(.slice Ao11 t350.length co11:Value).ownBlock) rfl rfl ?aP (fun k_ hk_=>((Kd.R_mono (ok':=fun k_=>((fun _=>True)) k_∧some k_≠(u4:Value).ownBlock) (Kd.R_apart' (HO352.out) (Kd.S_typed HO_4.out) (by decide)) (fun k_ hk=>⟨trivial,hk.2⟩))).1 k_ hk_.symm) ?aF ?aO ?aB ?aS ?aL ?_;(case aP=>exact k41_mkM _ _ _ (⟨t346,t347,t348,t349,t350⟩:S41) (Kd.R_mono (Kd.R_tight rfl (Kd.R_mono (ok':=fun k_=>((fun _=>True)) k_∧some k_≠(u4:Value).ownBlock) (Kd.R_apart' (HO352.out) (Kd.S_typed HO_4.out) (by decide)) (fun k_ hk=>⟨trivial,hk.2⟩))) (fun _ h_=>h_)));(case aB=>exact bel);(case aF=>exact (fun _ _=>trivial));(case aO=>exact (by (with_reducible repeat (first|apply Kd.S_alloc|apply Kd.S_drewN|apply Kd.S_drew));exact Kd.S_mono HO_4.out (fun k_ hk=>⟨trivial,fun e_=>hk.2 e_⟩)));(case aS=>exact (below_size bel));(case aL=>have:=LMc8.out;omega);intro v354 w10 ho hb hg hat;rw [← Ny353.out] at ho;have n0_:=Aside0.mk (hb);have n1_:=Aside0.mk (ho);clear HB;clear HO_4;clear HO352;have HB:=n0_;have HO355:=n1_;clear n0_ n1_;clear ho hb hg hat))
       go_roundg k1
       case measure=>have:=HK1.out;omega
       case rel=>exact ⟨(y353),(wrap64 (x5_1+1)),rx,H',⟨by have:=HK1.out;omega⟩,⟨by (with_reducible repeat (first|apply Kd.S_alloc|apply Kd.S_drewN|apply Kd.S_drew));exact HO355.out⟩,⟨by repeat (first|(with_reducible first|exact HB.out|apply below_alloc|apply pw_below_drewN|apply below_drew1)|exact HB.out)⟩⟩
      ·rw [if_neg c8] at H
       exact absurd H (by simp)
     ·rw [if_neg c6] at H
      exact absurd H (by simp)
    ·replace c5:=Bool.eq_false_iff.mpr c5
     subst c5
     have H1:(some x4_1)=some r:=by rw [if_neg (show ¬ (false=true) by decide)] at H;exact H
     clear H
     have H:=H1
     clear H1
     obtain rfl:=Option.some.inj H
     go_wp2
     go_ret
     exact ⟨_,by first|rfl|(simp [errW_none,errW_some]<;>rfl)|(simp [*,errW_none,errW_some]<;>rfl),by (with_reducible repeat (first|apply Kd.S_alloc|apply Kd.S_drewN|apply Kd.S_drew));exact HO_4.out,bel⟩
   ·rw [if_neg c4] at H
    have c4b0:decide (x5_1<(l0.length:Int))=false:=decide_eq_false c4
    clear c4
    obtain rfl:=Option.some.inj H
    go_wp2
    go_ret
    exact ⟨_,by first|rfl|(simp [errW_none,errW_some]<;>rfl)|(simp [*,errW_none,errW_some]<;>rfl),by (with_reducible repeat (first|apply Kd.S_alloc|apply Kd.S_drewN|apply Kd.S_drew));exact HO_4.out,bel⟩

end Go.Proofs.Ytoaijganmfijmaa.Pr
-- shrunk
-- written by a program of this session's (a turned copy of the kit's printer); Lean checks it
namespace Go.Proofs.Ytoaijganmfijmaa.Pr
open Go.RowKit Go.Proofs.YtoaijganmfijmaaW.PrintWords Go.Proofs.YtoaijganmfijmaaW.PrintLast Go.Proofs.YtoaijganmfijmaaW.PrintMore
attribute [local go_sem] max2_int min2_int max_two min_two max_three min_three max_four min_four   -- for this text's walks alone

def l07_ApplyTells.j0:Nat→List ByteArray→List (S41)→Bool→Bool→Option (Bool)
 | 0,_,_,_,_=>none
 | k+1,x0,x1,x5,x20=>if x20=true then (some x5) else ((apply_Apply.f x0 x1).bind fun bt358=>((r07_Apply.f k x0 x1).bind fun bt362=>(if x5=true then (if bt358.2=bt362.2 then ((r01_Texts.f k bt358.1 bt362.1).bind fun t366=>(if t366=true then ((apply_Right.f k x1).bind fun t367=>((r07_Right.f k x1).bind fun t368=>(if (t367 == t368)=true then ((apply_Turn.f k x1).bind fun t369=>((r07_Turn.f k x1).bind fun t372=>((r05_Same.f k t369 t372).bind fun t375=>(some t375)))) else (some false)))) else (some false))) else (some false)) else (some false))))
def l07_ApplyTells.f (k:Nat) (l0:List ByteArray) (l1:List (S41)):Option (Bool):=(l07_awake.f).bind fun t356=>((r05_Few.f k l1).bind fun t357=>(if t357=true then (l07_ApplyTells.j0 k l0 l1 t356 (decide ((l0.length:Int) > 24))) else (l07_ApplyTells.j0 k l0 l1 t356 true)))
theorem l07_ApplyTells.mono_l:∀ k,(∀ y0 y1 y2 y3,LeO (l07_ApplyTells.j0 k y0 y1 y2 y3) (l07_ApplyTells.j0 (k+1) y0 y1 y2 y3))
 | 0=>fun _ _ _ _ r h=>by simp [l07_ApplyTells.j0] at h
 | k+1=>by
  have ih0:=l07_ApplyTells.mono_l k
  ·intro y0 y1 y2 y3
   unfold l07_ApplyTells.j0
   repeat' first
   | (with_reducible exact ih0 _ _ _ _)
   | (with_reducible exact apply_Right.mono _ _)
   | (with_reducible exact apply_Turn.mono _ _)
   | (with_reducible exact r01_Texts.mono _ _ _)
   | (with_reducible exact r05_Few.mono _ _)
   | (with_reducible exact r05_Same.mono _ _ _)
   | (with_reducible exact r07_Apply.mono _ _ _)
   | (with_reducible exact r07_Right.mono _ _)
   | (with_reducible exact r07_Turn.mono _ _)
   | (with_reducible exact LeO.refl _)
   | (with_reducible exact LeO.none _)
   | (with_reducible refine LeO.ite ?_ ?_)
   | (with_reducible refine LeO.bind ?_ (fun _=>?_))
   | exact ih0 _ _ _ _
   | exact apply_Right.mono _ _
   | exact apply_Turn.mono _ _
   | exact r01_Texts.mono _ _ _
   | exact r05_Few.mono _ _
   | exact r05_Same.mono _ _ _
   | exact r07_Apply.mono _ _ _
   | exact r07_Right.mono _ _
   | exact r07_Turn.mono _ _
   | exact LeO.none _
   | refine LeO.ite ?_ ?_
   | refine LeO.bind ?_ (fun _=>?_)
theorem l07_ApplyTells.mono:∀ a0 a1 k,LeO (l07_ApplyTells.f k a0 a1) (l07_ApplyTells.f (k+1) a0 a1):=by
 intro a0 a1 k
 have ih0:=l07_ApplyTells.mono_l k
 unfold l07_ApplyTells.f
 repeat' first
   | (with_reducible exact ih0 _ _ _ _)
   | (with_reducible exact apply_Right.mono _ _)
   | (with_reducible exact apply_Turn.mono _ _)
   | (with_reducible exact r01_Texts.mono _ _ _)
   | (with_reducible exact r05_Few.mono _ _)
   | (with_reducible exact r05_Same.mono _ _ _)
   | (with_reducible exact r07_Apply.mono _ _ _)
   | (with_reducible exact r07_Right.mono _ _)
   | (with_reducible exact r07_Turn.mono _ _)
   | (with_reducible exact LeO.refl _)
   | (with_reducible exact LeO.none _)
   | (with_reducible refine LeO.ite ?_ ?_)
   | (with_reducible refine LeO.bind ?_ (fun _=>?_))
   | exact ih0 _ _ _ _
   | exact apply_Right.mono _ _
   | exact apply_Turn.mono _ _
   | exact r01_Texts.mono _ _ _
   | exact r05_Few.mono _ _
   | exact r05_Same.mono _ _ _
   | exact r07_Apply.mono _ _ _
   | exact r07_Right.mono _ _
   | exact r07_Turn.mono _ _
   | exact LeO.none _
   | refine LeO.ite ?_ ?_
   | refine LeO.bind ?_ (fun _=>?_)
set_option maxHeartbeats 8000000 in
set_option maxRecDepth 100000 in
theorem l07_ApplyTells.calls (k:Nat) (A0:Option Addr) (c0:Nat) (l0:List ByteArray) (A1:Option Addr) (c1:Nat) (l1:List (S41)) (r:Bool) (w:World) (hrt_:Aside0 (r=true)) (hr0:Kd.C Kd.string w A0 l0.length l0) (hc0:l0.length≤c0) (hr1:Kd.C k41 w A1 l1.length l1) (hc1:l1.length≤c1) (h:l07_ApplyTells.f k l0 l1=some r) :
  Calls Try.prog 3 #[.slice A0 l0.length c0,.slice A1 l1.length c1] w fun e w'=>e=.returned (.bool r)∧Below w.heap.size w w':=by
 have HR0:=Aside0.mk hr0
 have HC0:=Aside0.mk hc0
 clear hr0 hc0
 have HR1:=Aside0.mk hr1
 have HC1:=Aside0.mk hc1
 clear hr1 hc1
 have HB:=Aside0.mk (Below.refl w.heap.size w)
 have H:((l07_awake.f).bind fun t356=>((r05_Few.f k l1).bind fun t357=>(if t357=true then (l07_ApplyTells.j0 k l0 l1 t356 (decide ((l0.length:Int) > 24))) else (l07_ApplyTells.j0 k l0 l1 t356 true))))=some r:=h
 clear h
 replace H:=Option.bind_eq_some_iff.mp H
 obtain ⟨t356,A30,H⟩:=H
 replace H:((r05_Few.f k l1).bind fun t357=>(if t357=true then (l07_ApplyTells.j0 k l0 l1 t356 (decide ((l0.length:Int) > 24))) else (l07_ApplyTells.j0 k l0 l1 t356 true)))=some r:=H
 have A3:=Aside0.mk A30
 clear A30
 replace H:=Option.bind_eq_some_iff.mp H
 obtain ⟨t357,A40,H⟩:=H
 replace H:(if t357=true then (l07_ApplyTells.j0 k l0 l1 t356 (decide ((l0.length:Int) > 24))) else (l07_ApplyTells.j0 k l0 l1 t356 true))=some r:=H
 have A4:=Aside0.mk A40
 clear A40
 have HC5:=Aside0.mk H
 clear H
 go_enter Try.func3,Try.ntmps3
 go_upto_region 3 with (first|((with_reducible refine gate_callee (f:=10) rfl ?_);refine goesL_ (some 11) rfl rfl Try.func10 (by kernel_rfl) rfl #[] rfl (by (try simp only [List.map_toArray,List.map_cons,List.map_nil]);first|done|rfl|(simp only [List.length_drop,List.length_take];rfl)) ?_;(with_reducible refine (l07_awake.calls  t356 _ A3.out).mono ?_);rintro e w6 ⟨rfl,hb⟩;refine ⟨_,rfl,?_⟩;have n0_:=Aside0.mk (below_step bel hb);clear HB;have HB:=n0_;clear n0_;(try clear hb);(try clear hb2);(try clear hk);(try clear hi))|((with_reducible refine gate_callee (f:=11) rfl ?_);refine goesL_ (some 13) rfl rfl Try.func11 (by kernel_rfl) rfl #[.slice A1 l1.length c1] rfl (by (try simp only [List.map_toArray,List.map_cons,List.map_nil]);first|done|rfl|(simp only [List.length_drop,List.length_take];rfl)) ?_;(with_reducible refine (r05_Few.calls k _ _ l1 t357 _ ?side1 ?side2 A4.out).mono ?_);(case side1=>repeat (first|exact (Kd.C_below HR1.out HB.out)|(with_reducible refine Kd.C_alloc ?_ _)|(with_reducible refine Kd.C_drewN ?_ _)|(with_reducible refine Kd.C_drew ?_)));(case side2=>exact HC1.out);rintro e w7 ⟨rfl,hb⟩;refine ⟨_,rfl,?_⟩;have n0_:=Aside0.mk (below_step bel hb);clear HB;have HB:=n0_;clear n0_;(try clear hb);(try clear hb2);(try clear hk);(try clear hi)))
 (try simp only [Act.put,List.setIfInBounds_toArray,List.set_cons_zero,List.set_cons_succ])
 go_cut [20] (fun v20 wc=>∃ (kq:Nat) (x20_4:Bool),v20=.bool x20_4∧Aside0 (l07_ApplyTells.j0 kq l0 l1 t356 x20_4=some r)∧Aside0 (kq≤k)∧Aside0 (Below w.heap.size w wc))
 case first =>
  have H:=HC5.out
  clear HC5
  by_cases c8:t357=true
  ·subst c8
   have H1:(l07_ApplyTells.j0 k l0 l1 t356 (decide ((l0.length:Int) > 24)))=some r:=by rw [if_pos rfl] at H;exact H
   clear H
   have H:=H1
   clear H1
   have H':=Aside0.mk H
   clear H
   go_wp2
   go_meet
   case rel=>exact ⟨_,(decide ((l0.length:Int) > 24)),rx,H',⟨by first|omega|exact Nat.le_refl _⟩,⟨by repeat (first|(with_reducible first|exact HB.out|apply below_alloc|apply pw_below_drewN|apply below_drew1)|exact HB.out)⟩⟩
  replace c8:=Bool.eq_false_iff.mpr c8
  subst c8
  have H1:(l07_ApplyTells.j0 k l0 l1 t356 true)=some r:=by rw [if_neg (show ¬ (false=true) by decide)] at H;exact H
  clear H
  have H:=H1
  clear H1
  have H':=Aside0.mk H
  clear H
  go_wp2
  go_meet
  case rel=>exact ⟨_,(true),rx,H',⟨by first|omega|exact Nat.le_refl _⟩,⟨by repeat (first|(with_reducible first|exact HB.out|apply below_alloc|apply pw_below_drewN|apply below_drew1)|exact HB.out)⟩⟩
 case rest =>
  clear HC5
  try clear c1
  try clear p2
  try clear c3
  try clear c8
  obtain ⟨kq,x20_4,rfl,HA,HJ4,HB⟩:=hcut
  cases kq with
  | zero=>exact absurd HA.out (by simp [l07_ApplyTells.j0])
  | succ kj4 =>
   have H:=HA.out
   clear HA
   simp only [l07_ApplyTells.j0] at H
   by_cases c9:x20_4=true
   ·subst c9
    have H1:(some t356)=some r:=by rw [if_pos rfl] at H;exact H
    clear H
    have H:=H1
    clear H1
    obtain rfl:=Option.some.inj H
    go_wp2
    go_ret
    exact ⟨by first|rfl|(simp [errW_none,errW_some]<;>rfl)|(simp [*,errW_none,errW_some]<;>rfl),bel⟩
   ·replace c9:=Bool.eq_false_iff.mpr c9
    subst c9
    have H1:((apply_Apply.f l0 l1).bind fun bt358=>((r07_Apply.f kj4 l0 l1).bind fun bt362=>(if t356=true then (if bt358.2=bt362.2 then ((r01_Texts.f kj4 bt358.1 bt362.1).bind fun t366=>(if t366=true then ((apply_Right.f kj4 l1).bind fun t367=>((r07_Right.f kj4 l1).bind fun t368=>(if (t367 == t368)=true then ((apply_Turn.f kj4 l1).bind fun t369=>((r07_Turn.f kj4 l1).bind fun t372=>((r05_Same.f kj4 t369 t372).bind fun t375=>(some t375)))) else (some false)))) else (some false))) else (some false)) else (some false))))=some r:=by rw [if_neg (show ¬ (false=true) by decide)] at H;exact H
    clear H
    have H:=H1
    clear H1
    replace H:=Option.bind_eq_some_iff.mp H
    obtain ⟨⟨t358,t359⟩,A100,H⟩:=H
    replace H:((r07_Apply.f kj4 l0 l1).bind fun bt362=>(if t356=true then (if t359=bt362.2 then ((r01_Texts.f kj4 t358 bt362.1).bind fun t366=>(if t366=true then ((apply_Right.f kj4 l1).bind fun t367=>((r07_Right.f kj4 l1).bind fun t368=>(if (t367 == t368)=true then ((apply_Turn.f kj4 l1).bind fun t369=>((r07_Turn.f kj4 l1).bind fun t372=>((r05_Same.f kj4 t369 t372).bind fun t375=>(some t375)))) else (some false)))) else (some false))) else (some false)) else (some false)))=some r:=H
    have A10:=Aside0.mk A100
    clear A100
    replace H:=Option.bind_eq_some_iff.mp H
    obtain ⟨⟨t362,t363⟩,A110,H⟩:=H
    replace H:(if t356=true then (if t359=t363 then ((r01_Texts.f kj4 t358 t362).bind fun t366=>(if t366=true then ((apply_Right.f kj4 l1).bind fun t367=>((r07_Right.f kj4 l1).bind fun t368=>(if (t367 == t368)=true then ((apply_Turn.f kj4 l1).bind fun t369=>((r07_Turn.f kj4 l1).bind fun t372=>((r05_Same.f kj4 t369 t372).bind fun t375=>(some t375)))) else (some false)))) else (some false))) else (some false)) else (some false))=some r:=H
    have A11:=Aside0.mk A110
    clear A110
    by_cases c12:t356=true
    ·subst c12
     have H1:(if t359=t363 then ((r01_Texts.f kj4 t358 t362).bind fun t366=>(if t366=true then ((apply_Right.f kj4 l1).bind fun t367=>((r07_Right.f kj4 l1).bind fun t368=>(if (t367 == t368)=true then ((apply_Turn.f kj4 l1).bind fun t369=>((r07_Turn.f kj4 l1).bind fun t372=>((r05_Same.f kj4 t369 t372).bind fun t375=>(some t375)))) else (some false)))) else (some false))) else (some false))=some r:=by rw [if_pos rfl] at H;exact H
     clear H
     have H:=H1
     clear H1
     by_cases c13:t359=t363
     ·rw [if_pos c13] at H
      have c13b0:(t359 == t363)=true:=beq_iff_eq.mpr c13
      have c13b1:(t359 != t363)=false:=bne_eq_false_iff_eq.mpr c13
      clear c13
      replace H:=Option.bind_eq_some_iff.mp H
      obtain ⟨t366,A140,H⟩:=H
      replace H:(if t366=true then ((apply_Right.f kj4 l1).bind fun t367=>((r07_Right.f kj4 l1).bind fun t368=>(if (t367 == t368)=true then ((apply_Turn.f kj4 l1).bind fun t369=>((r07_Turn.f kj4 l1).bind fun t372=>((r05_Same.f kj4 t369 t372).bind fun t375=>(some t375)))) else (some false)))) else (some false))=some r:=H
      have A14:=Aside0.mk A140
      clear A140
      by_cases c15:t366=true
      ·subst c15
       have H1:((apply_Right.f kj4 l1).bind fun t367=>((r07_Right.f kj4 l1).bind fun t368=>(if (t367 == t368)=true then ((apply_Turn.f kj4 l1).bind fun t369=>((r07_Turn.f kj4 l1).bind fun t372=>((r05_Same.f kj4 t369 t372).bind fun t375=>(some t375)))) else (some false))))=some r:=by rw [if_pos rfl] at H;exact H
       clear H
       have H:=H1
       clear H1
       replace H:=Option.bind_eq_some_iff.mp H
       obtain ⟨t367,A160,H⟩:=H
       replace H:((r07_Right.f kj4 l1).bind fun t368=>(if (t367 == t368)=true then ((apply_Turn.f kj4 l1).bind fun t369=>((r07_Turn.f kj4 l1).bind fun t372=>((r05_Same.f kj4 t369 t372).bind fun t375=>(some t375)))) else (some false)))=some r:=H
       have A16:=Aside0.mk A160
       clear A160
       replace H:=Option.bind_eq_some_iff.mp H
       obtain ⟨t368,A170,H⟩:=H
       replace H:(if (t367 == t368)=true then ((apply_Turn.f kj4 l1).bind fun t369=>((r07_Turn.f kj4 l1).bind fun t372=>((r05_Same.f kj4 t369 t372).bind fun t375=>(some t375)))) else (some false))=some r:=H
       have A17:=Aside0.mk A170
       clear A170
       by_cases c18:(t367 == t368)=true
       ·rw [if_pos c18] at H
        have c18b0:(t367 == t368)=true:=c18
        (try (have c18b1:decide (t367=t368)=true:=by simpa using c18))
        (try (have c18b2:(t367 == t368)=true:=by simpa using c18))
        clear c18
        replace H:=Option.bind_eq_some_iff.mp H
        obtain ⟨t369,A190,H⟩:=H
        replace H:((r07_Turn.f kj4 l1).bind fun t372=>((r05_Same.f kj4 t369 t372).bind fun t375=>(some t375)))=some r:=H
        have A19:=Aside0.mk A190
        clear A190
        replace H:=Option.bind_eq_some_iff.mp H
        obtain ⟨t372,A200,H⟩:=H
        replace H:((r05_Same.f kj4 t369 t372).bind fun t375=>(some t375))=some r:=H
        have A20:=Aside0.mk A200
        clear A200
        replace H:=Option.bind_eq_some_iff.mp H
        obtain ⟨t375,A210,H⟩:=H
        replace H:(some t375)=some r:=H
        have A21:=Aside0.mk A210
        clear A210
        obtain rfl:=Option.some.inj H
        go_wp2_with (first|((with_reducible refine gate_callee (f:=12) rfl ?_);refine goesL_ (some 25) rfl rfl Try.func12 (by kernel_rfl) rfl #[.slice A0 l0.length c0,.slice A1 l1.length c1] rfl (by (try simp only [List.map_toArray,List.map_cons,List.map_nil]);first|done|rfl|(simp only [List.length_drop,List.length_take];rfl)) ?_;(with_reducible refine (apply_Apply.calls _ _ l0 _ _ l1 t358 t359 _ ?side1 ?side2 ?side3 ?side4 A10.out).mono ?_);(case side1=>repeat (first|exact (Kd.C_below HR0.out HB.out)|(with_reducible refine Kd.C_alloc ?_ _)|(with_reducible refine Kd.C_drewN ?_ _)|(with_reducible refine Kd.C_drew ?_)));(case side2=>exact HC0.out);(case side3=>repeat (first|exact (Kd.C_below HR1.out HB.out)|(with_reducible refine Kd.C_alloc ?_ _)|(with_reducible refine Kd.C_drewN ?_ _)|(with_reducible refine Kd.C_drew ?_)));(case side4=>exact HC1.out);rintro e w22 ⟨v360,rfl,ho0,hb⟩;refine ⟨_,rfl,?_⟩;have n0_:=Aside0.mk (Kd.R_lower ho0 (below_size bel));have n1_:=Aside0.mk (below_step bel hb);clear HB;have HO361:=n0_;have HB:=n1_;clear n0_ n1_;(try clear hb);(try clear hb2);(try clear hk);(try clear hi);(try clear ho0))|((with_reducible refine gate_callee (f:=13) rfl ?_);refine goesL_ (some 31) rfl rfl Try.func13 (by kernel_rfl) rfl #[.slice A0 l0.length c0,.slice A1 l1.length c1] rfl (by (try simp only [List.map_toArray,List.map_cons,List.map_nil]);first|done|rfl|(simp only [List.length_drop,List.length_take];rfl)) ?_;(with_reducible refine (r07_Apply.calls kj4 _ _ l0 _ _ l1 t362 t363 _ ?side1 ?side2 ?side3 ?side4 A11.out).mono ?_);(case side1=>repeat (first|exact (Kd.C_below HR0.out HB.out)|(with_reducible refine Kd.C_alloc ?_ _)|(with_reducible refine Kd.C_drewN ?_ _)|(with_reducible refine Kd.C_drew ?_)));(case side2=>exact HC0.out);(case side3=>repeat (first|exact (Kd.C_below HR1.out HB.out)|(with_reducible refine Kd.C_alloc ?_ _)|(with_reducible refine Kd.C_drewN ?_ _)|(with_reducible refine Kd.C_drew ?_)));(case side4=>exact HC1.out);rintro e w23 ⟨v364,rfl,ho0,hb⟩;refine ⟨_,rfl,?_⟩;have n0_:=Aside0.mk (Kd.R_elder' (by (with_reducible repeat (first|apply Kd.R_alloc|apply Kd.R_drewN|apply Kd.R_drew));exact HO361.out) (Kd.R_base ho0) hb);have n1_:=Aside0.mk (Kd.R_lower (Kd.R_new' ho0 (Kd.R_lt (by (with_reducible repeat (first|apply Kd.R_alloc|apply Kd.R_drewN|apply Kd.R_drew));exact HO361.out))) (below_size bel));have n2_:=Aside0.mk (below_step bel hb);clear HO361;clear HB;have HO361:=n0_;have HO365:=n1_;have HB:=n2_;clear n0_ n1_ n2_;(try clear hb);(try clear hb2);(try clear hk);(try clear hi);(try clear ho0);obtain ⟨Ao24,co24,eo24⟩:=Kd.R_slice HO361.out;subst eo24;obtain ⟨Ao25,co25,eo25⟩:=Kd.R_slice HO365.out;subst eo25)|(go_at_call 14;(with_reducible refine (r01_Texts.calls kj4 _ _ t358 _ _ t362 true _ ?side1 ?side2 ?side3 ?side4 A14.out).mono ?_);(case side1=>repeat (first|exact (Kd.R_reads' HO361.out).2.2|(with_reducible refine Kd.C_alloc ?_ _)|(with_reducible refine Kd.C_drewN ?_ _)|(with_reducible refine Kd.C_drew ?_)));(case side2=>exact (Kd.R_reads' HO361.out).2.1);(case side3=>repeat (first|exact (Kd.R_reads' HO365.out).2.2|(with_reducible refine Kd.C_alloc ?_ _)|(with_reducible refine Kd.C_drewN ?_ _)|(with_reducible refine Kd.C_drew ?_)));(case side4=>exact (Kd.R_reads' HO365.out).2.1);rintro e w' ⟨rfl,⟨nd,rfl⟩⟩)|(go_at_call 15;(with_reducible refine (apply_Right.calls kj4 _ _ l1 t367 _ ?side1 ?side2 A16.out).mono ?_);(case side1=>repeat (first|exact (Kd.C_below HR1.out bel)|(with_reducible refine Kd.C_alloc ?_ _)|(with_reducible refine Kd.C_drewN ?_ _)|(with_reducible refine Kd.C_drew ?_)));(case side2=>exact HC1.out);rintro e w26 ⟨rfl,hb⟩;have n0_:=Aside0.mk (Kd.R_below (by (with_reducible repeat (first|apply Kd.R_alloc|apply Kd.R_drewN|apply Kd.R_drew));exact HO361.out) hb);have n1_:=Aside0.mk (Kd.R_below (by (with_reducible repeat (first|apply Kd.R_alloc|apply Kd.R_drewN|apply Kd.R_drew));exact HO365.out) hb);have n2_:=Aside0.mk (below_step bel hb);clear HO361;clear HO365;clear HB;have HO361:=n0_;have HO365:=n1_;have HB:=n2_;clear n0_ n1_ n2_;(try clear hb);(try clear hb2);(try clear hk);(try clear hi))|(go_at_call 16;(with_reducible refine (r07_Right.calls kj4 _ _ l1 t368 _ ?side1 ?side2 A17.out).mono ?_);(case side1=>repeat (first|exact (Kd.C_below HR1.out HB.out)|(with_reducible refine Kd.C_alloc ?_ _)|(with_reducible refine Kd.C_drewN ?_ _)|(with_reducible refine Kd.C_drew ?_)));(case side2=>exact HC1.out);rintro e w27 ⟨rfl,hb⟩;have n0_:=Aside0.mk (Kd.R_below (by (with_reducible repeat (first|apply Kd.R_alloc|apply Kd.R_drewN|apply Kd.R_drew));exact HO361.out) hb);have n1_:=Aside0.mk (Kd.R_below (by (with_reducible repeat (first|apply Kd.R_alloc|apply Kd.R_drewN|apply Kd.R_drew));exact HO365.out) hb);have n2_:=Aside0.mk (below_step bel hb);clear HO361;clear HO365;clear HB;have HO361:=n0_;have HO365:=n1_;have HB:=n2_;clear n0_ n1_ n2_;(try clear hb);(try clear hb2);(try clear hk);(try clear hi))|(go_at_call 18;(with_reducible refine (apply_Turn.calls kj4 _ _ l1 t369 _ ?side1 ?side2 A19.out).mono ?_);(case side1=>repeat (first|exact (Kd.C_below HR1.out HB.out)|(with_reducible refine Kd.C_alloc ?_ _)|(with_reducible refine Kd.C_drewN ?_ _)|(with_reducible refine Kd.C_drew ?_)));(case side2=>exact HC1.out);rintro e w28 ⟨v370,rfl,ho0,hb⟩;have n0_:=Aside0.mk (Kd.R_below (by (with_reducible repeat (first|apply Kd.R_alloc|apply Kd.R_drewN|apply Kd.R_drew));exact HO361.out) hb);have n1_:=Aside0.mk (Kd.R_below (by (with_reducible repeat (first|apply Kd.R_alloc|apply Kd.R_drewN|apply Kd.R_drew));exact HO365.out) hb);have n2_:=Aside0.mk (Kd.S_lower (Kd.S_new' (Kd.S_new' ho0 (Kd.R_lt (by (with_reducible repeat (first|apply Kd.R_alloc|apply Kd.R_drewN|apply Kd.R_drew));exact HO361.out))) (Kd.R_lt (by (with_reducible repeat (first|apply Kd.R_alloc|apply Kd.R_drewN|apply Kd.R_drew));exact HO365.out))) (below_size bel));have n3_:=Aside0.mk (below_step bel hb);clear HO361;clear HO365;clear HB;have HO361:=n0_;have HO365:=n1_;have HO371:=n2_;have HB:=n3_;clear n0_ n1_ n2_ n3_;(try clear hb);(try clear hb2);(try clear hk);(try clear hi);(try clear ho0))|(go_at_call 19;(with_reducible refine (r07_Turn.calls kj4 _ _ l1 t372 _ ?side1 ?side2 A20.out).mono ?_);(case side1=>repeat (first|exact (Kd.C_below HR1.out HB.out)|(with_reducible refine Kd.C_alloc ?_ _)|(with_reducible refine Kd.C_drewN ?_ _)|(with_reducible refine Kd.C_drew ?_)));(case side2=>exact HC1.out);rintro e w29 ⟨v373,rfl,ho0,hb⟩;have n0_:=Aside0.mk (Kd.R_below (by (with_reducible repeat (first|apply Kd.R_alloc|apply Kd.R_drewN|apply Kd.R_drew));exact HO361.out) hb);have n1_:=Aside0.mk (Kd.R_below (by (with_reducible repeat (first|apply Kd.R_alloc|apply Kd.R_drewN|apply Kd.R_drew));exact HO365.out) hb);have n2_:=Aside0.mk (Kd.S_elder' (by (with_reducible repeat (first|apply Kd.S_alloc|apply Kd.S_drewN|apply Kd.S_drew));exact HO371.out) (Kd.S_base ho0) hb);have n3_:=Aside0.mk (Kd.S_lower (Kd.S_new' (Kd.S_new' (Kd.S_new' ho0 (Kd.R_lt (by (with_reducible repeat (first|apply Kd.R_alloc|apply Kd.R_drewN|apply Kd.R_drew));exact HO361.out))) (Kd.R_lt (by (with_reducible repeat (first|apply Kd.R_alloc|apply Kd.R_drewN|apply Kd.R_drew));exact HO365.out))) (Kd.S_lt (by (with_reducible repeat (first|apply Kd.S_alloc|apply Kd.S_drewN|apply Kd.S_drew));exact HO371.out))) (below_size bel));have n4_:=Aside0.mk (below_step bel hb);clear HO361;clear HO365;clear HO371;clear HB;have HO361:=n0_;have HO365:=n1_;have HO371:=n2_;have HO374:=n3_;have HB:=n4_;clear n0_ n1_ n2_ n3_ n4_;(try clear hb);(try clear hb2);(try clear hk);(try clear hi);(try clear ho0);obtain ⟨Ao30,co30,eo30⟩:=Kd.S_slice HO371.out;subst eo30;obtain ⟨Ao31,co31,eo31⟩:=Kd.S_slice HO374.out;subst eo31)|(go_at_call 17;(with_reducible refine (r05_Same.calls kj4 _ _ t369 _ _ t372 t375 _ ?side1 ?side2 ?side3 ?side4 A21.out).mono ?_);(case side1=>repeat (first|exact (Kd.S_reads' HO371.out).2.2|(with_reducible refine Kd.C_alloc ?_ _)|(with_reducible refine Kd.C_drewN ?_ _)|(with_reducible refine Kd.C_drew ?_)));(case side2=>exact (Kd.S_reads' HO371.out).2.1);(case side3=>repeat (first|exact (Kd.S_reads' HO374.out).2.2|(with_reducible refine Kd.C_alloc ?_ _)|(with_reducible refine Kd.C_drewN ?_ _)|(with_reducible refine Kd.C_drew ?_)));(case side4=>exact (Kd.S_reads' HO374.out).2.1);rintro e w32 ⟨rfl,hb⟩;have n0_:=Aside0.mk (Kd.R_below (by (with_reducible repeat (first|apply Kd.R_alloc|apply Kd.R_drewN|apply Kd.R_drew));exact HO361.out) hb);have n1_:=Aside0.mk (Kd.R_below (by (with_reducible repeat (first|apply Kd.R_alloc|apply Kd.R_drewN|apply Kd.R_drew));exact HO365.out) hb);have n2_:=Aside0.mk (Kd.S_below (by (with_reducible repeat (first|apply Kd.S_alloc|apply Kd.S_drewN|apply Kd.S_drew));exact HO371.out) hb);have n3_:=Aside0.mk (Kd.S_below (by (with_reducible repeat (first|apply Kd.S_alloc|apply Kd.S_drewN|apply Kd.S_drew));exact HO374.out) hb);have n4_:=Aside0.mk (below_step bel hb);clear HO361;clear HO365;clear HO371;clear HO374;clear HB;have HO361:=n0_;have HO365:=n1_;have HO371:=n2_;have HO374:=n3_;have HB:=n4_;clear n0_ n1_ n2_ n3_ n4_;(try clear hb);(try clear hb2);(try clear hk);(try clear hi)))
        go_ret
        exact ⟨by first|rfl|(simp [errW_none,errW_some]<;>rfl)|(simp [*,errW_none,errW_some]<;>rfl),bel⟩
       ·rw [if_neg c18] at H
        have c18b0:(t367 == t368)=false:=by simpa using c18
        (try (have c18b1:decide (t367=t368)=false:=by simpa using c18))
        (try (have c18b2:(t367 == t368)=false:=by simpa using c18))
        (try (have c18b3:¬ (t367=t368):=by simpa using c18))
        clear c18
        exact absurd (H.trans (congrArg some hrt_.out)) (by simp)
      ·replace c15:=Bool.eq_false_iff.mpr c15
       subst c15
       have H1:(some false)=some r:=by rw [if_neg (show ¬ (false=true) by decide)] at H;exact H
       clear H
       have H:=H1
       clear H1
       exact absurd (H.trans (congrArg some hrt_.out)) (by simp)
     ·rw [if_neg c13] at H
      have c13b0:(t359 == t363)=false:=beq_eq_false_iff_ne.mpr c13
      have c13b1:(t359 != t363)=true:=bne_iff_ne.mpr c13
      exact absurd (H.trans (congrArg some hrt_.out)) (by simp)
    ·replace c12:=Bool.eq_false_iff.mpr c12
     subst c12
     have H1:(some false)=some r:=by rw [if_neg (show ¬ (false=true) by decide)] at H;exact H
     clear H
     have H:=H1
     clear H1
     exact absurd (H.trans (congrArg some hrt_.out)) (by simp)

end Go.Proofs.Ytoaijganmfijmaa.Pr
-- shrunk
/-
The law ApplyTells answers true: the plain part.
-/
namespace Go.Proofs.Ytoaijganmfijmaa.Pr
open Go.RowKit Go.Proofs.YtoaijganmfijmaaW.PrintWords Go.Proofs.YtoaijganmfijmaaW.PrintLast Go.Proofs.YtoaijganmfijmaaW.PrintMore
theorem RTurnA_l0:∀ (l m x:List Hk) (i:Nat) (out:List Hk),x.drop i=l→i+l.length=x.length→Turned l m→BigL l→x.length≤1048576→out.length≤i →
  Ev (fun k=>r07_Turn.l0 k x true out (i:Int)) (out++m)
 | [],m,x,i,out,hd,hi,ht,hb,hx,ho=>by
  cases m with
  | cons _ _=>exact ht.elim
  | nil =>
   refine Ev.step (fun _=>r07_Turn.l0.eq_2 ..) ?_
   simp only [List.length_nil,Nat.add_zero] at hi
   simp only [if_neg (show ¬ (i:Int)<(x.length:Int) by omega),List.append_nil]
   exact Ev.now _
 | h :: l,m,x,i,out,hd,hi,ht,hb,hx,ho=>by
  cases m with
  | nil=>exact ht.elim
  | cons y m =>
   obtain ⟨⟨A,An,B,Bn,bs,t,rfl,rfl,hok⟩,htr⟩:=ht
   simp only [List.length_cons] at hi
   have hlt:i<x.length:=by omega
   rw [List.drop_eq_getElem_cons hlt] at hd
   injection hd with hd1 hd2
   have hbx:=hb _ List.mem_cons_self
   have hb1:(blkLines bs t).length≤65536:=hbx.1
   refine Ev.step (fun _=>r07_Turn.l0.eq_2 ..) ?_
   simp only [if_pos (show (i:Int)<(x.length:Int) by omega),if_pos (show (0:Int)≤(i:Int) by omega),rdH_at hlt,w_succ hlt (show x.length≤4611686018427387904 by omega),hd1,if_true]
   refine Ev.bind (RTurnH_ev A An B Bn bs t hok hbx.2 (by omega)) ?_
   simp only [if_pos (show out.length<2513169434916 by omega)]
   have ih:=RTurnA_l0 l m x (i+1) (out++[⟨B,Bn,A,An,blkLines (bs.map swapB) t⟩]) hd2 (by omega) htr (fun h hh=>hb h (List.mem_cons_of_mem _ hh)) hx (by rw [List.length_append,List.length_singleton];omega)
   rw [List.append_assoc] at ih
   exact ih
theorem RTurnA_no (x out:List Hk):Ev (fun k=>r07_Turn.l0 k x false out 0) out:=by
 refine Ev.step (fun _=>r07_Turn.l0.eq_2 ..) ?_
 by_cases c:(0:Int)<(x.length:Int)
 ·simp only [if_pos c,Bool.false_eq_true,if_false];exact Ev.now _
 simp only [if_neg c];exact Ev.now _
theorem swap_len:∀ (bs:List Blk) (t:List ByteArray),(blkLines (bs.map swapB) t).length=(blkLines bs t).length
 | [],t=>rfl
 | b :: bs,t=>by simp only [List.map_cons,blkLines,swapB,List.length_append,sgs_len,swap_len bs t];omega
theorem turned_big:∀ {l m:List Hk},Turned l m→BigL l→∀ h ∈ m,h.f4.length≤65536
 | [],[],_,_,h,hh=>absurd hh (by simp)
 | x :: l,y :: m,⟨⟨A,An,B,Bn,bs,t,e1,e2,ok⟩,ht⟩,hb,h,hh=>by
  rcases List.mem_cons.1 hh with rfl|hh
  ·have:=(hb x List.mem_cons_self).1
   rw [e1] at this
   rw [e2]
   simp only [swap_len] at this ⊢
   exact this
  ·exact turned_big ht (fun h hh=>hb h (List.mem_cons_of_mem _ hh)) h hh
 | [],_ :: _,h,_,_,_=>h.elim
 | _ :: _,[],h,_,_,_=>h.elim
theorem ApplyTells_pure (a:List ByteArray) (l:List Hk) (ya:a.length * 16≤140737488351232) (za:∀ s ∈ a,s.size≤140737488351232) (yl:l.length * 56≤140737488351232) (zl:∀ h ∈ l,∀ s ∈ h.f4,s.size≤140737488351232) :
  ∃ k,l07_ApplyTells.f k a l=some true:=by
 refine Ev.rounds ?_
 unfold l07_ApplyTells.f
 have j0t:Ev (fun k=>l07_ApplyTells.j0 k a l true true) true:=by
  refine Ev.step (fun _=>l07_ApplyTells.j0.eq_2 ..) ?_
  exact Ev.now _
 refine Ev.bind (Ev.none_of fun _=>rfl) ?_
 refine Ev.bind (FewA_ev l (by omega)) ?_
 cases hf:fewL l with
 | false =>
  simp only [Bool.false_eq_true,if_false]
  exact j0t
 | true =>
  simp only [if_true]
  by_cases c:(a.length:Int) > 24
  ·rw [decide_eq_true c]
   exact j0t
  rw [decide_eq_false c]
  have hS:SmallA a l:=fewL_small (by omega) hf
  have hB:BigL l:=fun h hh=>⟨(hS.2.2 h hh).1,fun s hs=>by have:=zl h hh s hs;omega⟩
  refine Ev.step (fun _=>l07_ApplyTells.j0.eq_2 ..) ?_
  simp only [Bool.false_eq_true,if_false,if_true]
  refine Ev.bind (Ev.none_of fun _=>apply_some hS) ?_
  refine Ev.bind (RApply_ev (by omega) hf) ?_
  simp only [if_true]
  have hlen:=applyP_len hS
  have ht:=Texts_ev (applyP a l).1 (applyP a l).1 (by omega)
  rw [decide_eq_true rfl] at ht
  refine Ev.bind ht ?_
  simp only [if_true]
  refine Ev.bind (ARight_ev hS) ?_
  refine Ev.bind (RRightH_ev hf) ?_
  simp only [beq_self_eq_true,if_true]
  have hl2:=hS.2.1
  cases hr:rightP 0 0 l with
  | false =>
   refine Ev.bind (ATurn_no hS hr) ?_
   have h2:Ev (fun k=>r07_Turn.f k l) []:=by
    unfold r07_Turn.f
    have:=RRightH_ev hf
    rw [hr] at this
    exact Ev.bind this (RTurnA_no l [])
   refine Ev.bind h2 ?_
   refine Ev.bind (SameH_ev [] (by simp) (by simp)) ?_
   exact Ev.now _
  | true =>
   obtain ⟨m,hm⟩:=right_turned l 0 0 hr
   refine Ev.bind (ATurn_ev hS hB hr hm) ?_
   have h2:Ev (fun k=>r07_Turn.f k l) m:=by
    unfold r07_Turn.f
    have:=RRightH_ev hf
    rw [hr] at this
    refine Ev.bind this ?_
    have h0:=RTurnA_l0 l m l 0 [] rfl (by simp) hm hB (by omega) (by simp)
    exact h0
   refine Ev.bind h2 ?_
   have hml:=turned_len hm
   refine Ev.bind (SameH_ev m (by omega) (fun h hh=>by have:=turned_big hm hB h hh;omega)) ?_
   exact Ev.now _
end Go.Proofs.Ytoaijganmfijmaa.Pr
-- shrunk
/-
Arguments that are slices of whatever kind, opened, with the sizes of all that is read behind them. General: no program in sight.
-/
namespace Go.Proofs.Ytoaijganmfijmaa.Pr
open Go.RowKit Go.Proofs.YtoaijganmfijmaaW.PrintWords Go.Proofs.YtoaijganmfijmaaW.PrintLast Go.Proofs.YtoaijganmfijmaaW.PrintMore
open Go.ChangeShapes Go.WideShapes Go.Deep
def Rz (P:Program) {α:Type} (d:Kd α) (S:α→Prop) (t:TypeId):Prop :=
 ∀ (H:Type) (enc:TypeId × Value→H) (w:World) (base:Nat) (spare:Nat→Bool) (held:Bool) (fuel:Nat) (cs:List Value) (x:DataW H × List MemPlace),
  DataW.trod enc P w base spare held fuel t cs=some x→(∀ n ∈ x.1.weights P t,n≤140737488351232)→∃ y,d.K w y cs∧S y
theorem Rz.int {P:Program} {t:TypeId} {k:IntKind} (hu:P.underlying t=some (.int k)):Rz P (Kd.int k) (fun n=>(Lit.int k n).wf=true) t:=fun H enc w base spare held fuel cs x h _=>by
 obtain ⟨n,rfl,_,hw⟩:=DataW.trod_int hu h
 exact ⟨n,rfl,hw⟩
theorem Rz.string {P:Program} {t:TypeId} (hu:P.underlying t=some .string):Rz P Kd.string (fun s=>s.size≤140737488351232) t:=fun H enc w base spare held fuel cs x h hz=>by
 obtain ⟨s,rfl,rfl,_⟩:=DataW.trod_string hu h
 refine ⟨s,rfl,?_⟩
 have:=hz s.data.toList.length (by simp [DataW.weights])
 simpa using this
theorem weights_mem_all {H:Type} {P:Program} {e:TypeId}:∀ {l:List (DataW H)} {d:DataW H},d ∈ l→∀ n ∈ d.weights P e,n ∈ DataW.weightsAll P e l
 | c :: l,d,hd,n,hn=>by
  simp only [DataW.weightsAll,List.mem_append]
  rcases List.mem_cons.1 hd with rfl|hd
  ·exact Or.inl hn
  ·exact Or.inr (weights_mem_all hd n hn)
theorem Rz.slice {P:Program} {α:Type} {d:Kd α} {S:α→Prop} {t e:TypeId} {B:Nat} (hu:P.underlying t=some (.slice e)) (hc:P.cellsOf e=d.sz) (hB:P.bytesOf e=B) (hd:Rz P d S e) :
  Rz P (Kd.slice e d) (fun xs=>xs.length * B≤140737488351232∧∀ y ∈ xs,S y) t:=fun H enc w base spare held fuel cs x h hz=>by
 rcases open_slice hu h with ⟨rfl,_⟩|⟨a,len,cap,m,n,D,Pl,rfl,hb,hl,hm,hmm,rfl,hx⟩
 ·exact ⟨[],⟨none,0,rfl,Nat.le_refl _,rfl,by simp,fun h0=>absurd h0 (Nat.lt_irrefl _)⟩,by simp,by simp⟩
 ·have hlm:len≤m:=by rw [hmm];split<;>omega
  have hw0:len * B≤140737488351232:=by
   have h1:=hz ((((List.range len).map D).length+((List.range (m - len)).map fun j=>D (len+j)).length) * P.bytesOf e) (by simp [DataW.weights,hu])
   rw [hB] at h1
   simp only [List.length_map,List.length_range] at h1
   exact Nat.le_trans (Nat.mul_le_mul_right _ (Nat.le_add_right _ _)) h1
  have hw1:∀ i,i<len→∀ q ∈ (D i).weights P e,q≤140737488351232:=fun i hi q hq=>by
   refine hz q ?_
   simp only [DataW.weights,hu,List.mem_cons,List.mem_append]
   exact Or.inr (Or.inl (weights_mem_all (List.mem_map.2 ⟨i,List.mem_range.2 hi,rfl⟩) q hq))
  have key:∀ k,k≤len→∃ xs:List α,xs.length=k∧(∀ y ∈ xs,S y)∧∀ j p,xs[j]?=some p→∃ c,c.length=d.sz∧d.K w p c∧∀ i u,c[i]?=some u→w.cell? (a.add (j * d.sz+i))=some u:=by
   intro k
   induction k with
   | zero=>exact fun _=>⟨[],rfl,by simp,fun j p hj=>by simp at hj⟩
   | succ k ih =>
    intro hk
    obtain ⟨xs,hxl,hS,hxs⟩:=ih (by omega)
    obtain ⟨cs',h1,h2⟩:=hx k (by omega)
    obtain ⟨y,hy,hSy⟩:=hd H enc w base spare held n cs' _ h2 (hw1 k (by omega))
    obtain ⟨_,hlen,hcell⟩:=World.cells?_some h1
    refine ⟨xs++[y],by simp [hxl],fun z hz=>?_,fun j p hj=>?_⟩
    ·rcases List.mem_append.1 hz with hz|hz
     ·exact hS z hz
     ·rw [List.mem_singleton.1 hz];exact hSy
    by_cases hjk:j<k
    ·rw [List.getElem?_append_left (by omega)] at hj
     exact hxs j p hj
    ·have hj':j=k:=by
      have:j<(xs++[y]).length:=by
       rcases Nat.lt_or_ge j (xs++[y]).length with h|h
       ·exact h
       ·rw [List.getElem?_eq_none h] at hj;cases hj
      simp [hxl] at this;omega
     subst hj'
     rw [List.getElem?_append_right (by omega),hxl,Nat.sub_self] at hj
     obtain rfl:=Option.some.inj hj
     refine ⟨cs',by rw [hlen,hc],hy,fun i u hi=>?_⟩
     have hlt:i<cs'.length:=by
      rcases Nat.lt_or_ge i cs'.length with h|h
      ·exact h
      ·rw [List.getElem?_eq_none h] at hi;cases hi
     rw [← hc,← Deep.add_add,hcell i (by omega),hi]
  obtain ⟨xs,rfl,hS,hxs⟩:=key len (Nat.le_refl _)
  exact ⟨xs,⟨some a,cap,rfl,hl,rfl,by unfold maxLen at hm;omega,fun _=>⟨a,rfl,hxs⟩⟩,hw0,hS⟩
inductive RzF (P:Program):{α:Type}→Kd α→(α→Prop)→Nat→List Field→Prop
 | last {α:Type} {d:Kd α} {S:α→Prop} {f:Field} {off:Nat}:f.offset=off→P.cellsOf f.type=d.sz→Rz P d S f.type→RzF P d S off [f]
 | cons {α β:Type} {a:Kd α} {b:Kd β} {S:α→Prop} {U:β→Prop} {f:Field} {fs:List Field} {off:Nat}:f.offset=off→P.cellsOf f.type=a.sz→Rz P a S f.type→RzF P b U (off+a.sz) fs→RzF P (Kd.pair a b) (fun x=>S x.1∧U x.2) off (f :: fs)
theorem RzF.read {P:Program} {H:Type} {enc:TypeId × Value→H} {w:World} {base:Nat} {spare:Nat→Bool} {held:Bool} {cs:List Value} {α:Type} {d:Kd α} {S:α→Prop} {off:Nat} {fs:List Field} (h:RzF P d S off fs) :
  (∀ f ∈ fs,∃ n x,DataW.trod enc P w base spare held n f.type ((cs.drop f.offset).take (P.cellsOf f.type))=some x∧∀ q ∈ x.1.weights P f.type,q≤140737488351232)→∃ y,d.K w y ((cs.drop off).take d.sz)∧S y:=by
 induction h with
 | last ho hc hr =>
  intro hf
  obtain ⟨n,x,hx,hw⟩:=hf _ (List.mem_singleton.2 rfl)
  rw [ho,hc] at hx
  exact hr H enc w base spare held n _ x hx hw
 | @cons α β a b S U f fs off ho hc hr _ ih =>
  intro hf
  obtain ⟨n,x,hx,hw⟩:=hf _ List.mem_cons_self
  rw [ho,hc] at hx
  obtain ⟨y0,h0,s0⟩:=hr H enc w base spare held n _ x hx hw
  obtain ⟨y1,h1,s1⟩:=ih (fun g hg=>hf g (List.mem_cons_of_mem _ hg))
  refine ⟨(y0,y1),⟨_,_,?_,h0,h1⟩,s0,s1⟩
  show List.take (a.sz+b.sz) _=_
  rw [List.take_add,List.drop_drop]
theorem Rz.struct {P:Program} {α:Type} {d:Kd α} {S:α→Prop} {t:TypeId} {fs:Array Field} (hu:P.underlying t=some (.struct fs)) (hc:P.cellsOf t=d.sz) (hf:RzF P d S 0 fs.toList):Rz P d S t:=fun H enc w base spare held fuel cs x h hz=>by
 obtain ⟨xs,n,_,rfl,hl,hlen,hx⟩:=DataW.trod_struct hu h
 have h2:=hf.read (enc:=enc) (w:=w) (base:=base) (spare:=spare) (held:=held) (cs:=cs) (fun f hm=>by
  obtain ⟨i,hi,he⟩:=List.mem_iff_getElem.1 hm
  have h3:=hx i f (by rw [← he];simp)
  have hi':i<xs.length:=by rw [hlen];simpa using hi
  rw [List.getElem?_eq_getElem hi'] at h3
  refine ⟨n,_,h3,fun q hq=>hz q ?_⟩
  simp only [DataW.weights,hu]
  refine DataW.weights_mem_each (j:=i) (t:=f.type) (d:=xs[i].1) ?_ ?_ q hq
  ·rw [List.getElem?_map,List.getElem?_eq_getElem hi,he];rfl
  ·rw [List.getElem?_map,List.getElem?_eq_getElem hi'];rfl)
 rw [List.drop_zero,List.take_of_length_le (by omega)] at h2
 exact h2
theorem Rz.iso {P:Program} {α β:Type} {d:Kd α} {S:α→Prop} {f:β→α} {t:TypeId} (h:Rz P d S t) (g:∀ y,∃ x,f x=y):Rz P (Kd.iso d f) (fun x=>S (f x)) t:=fun H enc w base spare held fuel cs x hx hz=>by
 obtain ⟨y,hy,hs⟩:=h H enc w base spare held fuel cs x hx hz
 obtain ⟨z,rfl⟩:=g y
 exact ⟨z,hy,hs⟩
theorem Rz.mono {P:Program} {α:Type} {d:Kd α} {S S':α→Prop} {t:TypeId} (h:Rz P d S t) (g:∀ x,S x→S' x):Rz P d S' t:=fun H enc w base spare held fuel cs x hx hz=>by
 obtain ⟨y,hy,hs⟩:=h H enc w base spare held fuel cs x hx hz
 exact ⟨y,hy,g y hs⟩
theorem open_rowz {P:Program} {α:Type} {d:Kd α} {S:α→Prop} {t e:TypeId} {B:Nat} {H:Type} {enc:TypeId × Value→H} {w:World} {r:Reach} {b0 base:Nat} {spare:Nat→Bool} {held:Bool} {v:Value} {x:DataW H} {ps:List MemPlace} {ts:List TypeId} {ds:List (DataW H)} {j:Nat}
  (hsz:(DataW.weightsEach P ts ds).all (·≤reachBytes)=true) (ht:ts[j]?=some t) (hdj:ds[j]?=some x)
  (hu:P.underlying t=some (.slice e)) (hc:P.cellsOf e=d.sz) (hB:P.bytesOf e=B) (hd:Rz P d S e) (hval:Value.okWide P w r b0 t v) (h:DataW.Trod enc P w base spare held t v x ps) :
  ∃ (A:Option Addr) (c:Nat) (xs:List α),v=.slice A xs.length c∧xs.length≤c∧d.C w A xs.length xs∧xs.length * B≤140737488351232∧∀ y ∈ xs,S y:=by
 obtain ⟨a,len,cap,rfl⟩:=okWide_slice hu hval
 obtain ⟨fuel,hf⟩:=h
 obtain ⟨xs,⟨A,c,hcs,hl,hC⟩,hb,hS⟩:=Rz.slice hu hc hB hd H enc w base spare held fuel _ _ hf (fun n hn=>by
  have:=List.all_eq_true.1 hsz _ (DataW.weights_mem_each ht hdj n hn)
  have h2:n≤reachBytes:=by simpa using this
  exact h2)
 simp [Value.cells] at hcs
 obtain ⟨rfl,rfl,rfl⟩:=hcs
 exact ⟨_,_,xs,rfl,hl,hC,hb,hS⟩
end Go.Proofs.Ytoaijganmfijmaa.Pr
-- shrunk
/-
The kinds of the lower layers' arguments, with sizes: lists of texts, edits.
-/
namespace Go.Proofs.Ytoaijganmfijmaa.Pr
open Go.RowKit Go.Proofs.YtoaijganmfijmaaW.PrintWords Go.Proofs.YtoaijganmfijmaaW.PrintLast Go.Proofs.YtoaijganmfijmaaW.PrintMore
theorem rz_string:Rz Try.prog Kd.string (fun s=>s.size≤140737488351232) 9:=Rz.string (by kernel_rfl)
theorem rz_strings:Rz Try.prog (Kd.slice 9 Kd.string) (fun xs=>xs.length * 16≤140737488351232∧∀ y ∈ xs,y.size≤140737488351232) 22:=Rz.slice (e:=9) (by kernel_rfl) (by kernel_rfl) (by kernel_rfl) rz_string
theorem rz_int:Rz Try.prog (Kd.int .i64) (fun n=>(Lit.int .i64 n).wf=true) 3:=Rz.int (by kernel_rfl)
end Go.Proofs.Ytoaijganmfijmaa.Pr
-- shrunk
/-
The kinds of layer 7's arguments, with sizes: hunks.
-/
namespace Go.Proofs.Ytoaijganmfijmaa.Pr
open Go.RowKit Go.Proofs.YtoaijganmfijmaaW.PrintWords Go.Proofs.YtoaijganmfijmaaW.PrintLast Go.Proofs.YtoaijganmfijmaaW.PrintMore
theorem rz_hunk:Rz Try.prog k41 (fun h=>∀ s ∈ h.f4,s.size≤140737488351232) 41:=by
 refine Rz.mono (Rz.iso (Rz.struct Try.underlying41 (by kernel_rfl) (.cons rfl (by kernel_rfl) rz_int (.cons rfl (by kernel_rfl) rz_int (.cons rfl (by kernel_rfl) rz_int (.cons rfl (by kernel_rfl) rz_int (.last rfl (by kernel_rfl) rz_strings)))))) (fun y=>⟨⟨y.1,y.2.1,y.2.2.1,y.2.2.2.1,y.2.2.2.2⟩,rfl⟩)) ?_
 intro x h
 exact h.2.2.2.2.2
end Go.Proofs.Ytoaijganmfijmaa.Pr
-- shrunk
