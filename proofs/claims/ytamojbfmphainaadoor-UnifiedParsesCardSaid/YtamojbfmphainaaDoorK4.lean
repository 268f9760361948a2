/-
Several plain texts in one.
-/
import Derived.Test.YtamojbfmphainaaDoorK3
import Derived.Test.YtamojbfmphainaaDoorD12
import Derived.Test.YtamojbfmphainaaDoorK0
import Derived.Test.YtamojbfmphainaaDoorK2
set_option linter.unusedVariables false
set_option linter.unusedSimpArgs false
/-
What the document's head answers: what the program's head is.
-/
namespace Go.Proofs.YtamojbfmphainaaDoor.Pr
open Go.RowKit Go.Proofs.YtamojbfmphainaaDoorW.PrintWords Go.Proofs.YtamojbfmphainaaDoorW.PrintLast Go.Proofs.YtamojbfmphainaaDoorW.PrintMore
def five (o:Option Hk):Int × Int × Int × Int × List ByteArray × Bool:=match o with
 | some h=>(h.f0,h.f1,h.f2,h.f3,h.f4,true)
 | none=>(0,0,0,0,[],false)
theorem head_j1 (a b c d:Int) (ha:0≤a∧a<2147483648) (hc:0≤c∧c<2147483648) (z:Bool):Ev (fun k=>r06_head.j1 k [a,b,c,d] z) (five (if z=true then none else some ⟨lessI a b,b,lessI c d,d,[]⟩)):=by
 refine Ev.step (fun _=>r06_head.j1.eq_2 ..) ?_
 have l0:(0:Int)<(([a,b,c,d]:List Int).length:Int):=by show (0:Int)<4;decide
 have l1:(1:Int)<(([a,b,c,d]:List Int).length:Int):=by show (1:Int)<4;decide
 have l2:(2:Int)<(([a,b,c,d]:List Int).length:Int):=by show (2:Int)<4;decide
 have l3:(3:Int)<(([a,b,c,d]:List Int).length:Int):=by show (3:Int)<4;decide
 have wa:wrap64 (a - 1)=a - 1:=w_in (by omega) (by omega)
 have wc:wrap64 (c - 1)=c - 1:=w_in (by omega) (by omega)
 simp only [if_pos l0,if_pos l1,if_pos l2,if_pos l3,show rd [a,b,c,d] 0=a from rfl,show rd [a,b,c,d] 1=b from rfl,show rd [a,b,c,d] 2=c from rfl,show rd [a,b,c,d] 3=d from rfl,wa,wc]
 by_cases hz:z=true
 ·simp only [if_pos hz];exact Ev.now _
 ·simp only [if_neg hz,lessI]
  by_cases hb:b > 0
  ·by_cases hd:d > 0
   ·simp only [if_pos hb,if_pos hd];exact Ev.now _
   ·simp only [if_pos hb,if_neg hd];exact Ev.now _
  ·by_cases hd:d > 0
   ·simp only [if_neg hb,if_pos hd];exact Ev.now _
   ·simp only [if_neg hb,if_neg hd];exact Ev.now _
theorem wordI_size (s w:ByteArray) (i:Nat):wordI s i w=(s.size:Int) ↔ wordN s i w=some s.size:=by
 unfold wordI
 rcases wordN s i w with _|j
 ·constructor
  ·intro h;simp only at h;omega
  ·intro h;cases h
 ·simp only [Option.some.injEq];omega
theorem head_end (s:ByteArray) (i:Nat) (a b c d:Int) (hs:s.size≤1048576) (hi:i≤s.size) (ha:0≤a∧a<2147483648) (hc:0≤c∧c<2147483648) :
  Ev (fun k=>r06_head.l0 k s [a,b,c,d] (i:Int) signsL 4) (five (fourN s ([a,b,c,d],i))):=by
 refine Ev.step (fun _=>r06_head.l0.eq_2 ..) ?_
 have l0:(0:Int)<(([a,b,c,d]:List Int).length:Int):=by show (0:Int)<4;decide
 have l1:(1:Int)<(([a,b,c,d]:List Int).length:Int):=by show (1:Int)<4;decide
 have l2:(2:Int)<(([a,b,c,d]:List Int).length:Int):=by show (2:Int)<4;decide
 have l3:(3:Int)<(([a,b,c,d]:List Int).length:Int):=by show (3:Int)<4;decide
 simp only [if_neg (show ¬ (4:Int)<4 by decide),if_pos l0,if_pos l1,if_pos l2,if_pos l3,show rd [a,b,c,d] 0=a from rfl,show rd [a,b,c,d] 1=b from rfl,show rd [a,b,c,d] 2=c from rfl,show rd [a,b,c,d] 3=d from rfl]
 refine Ev.bind (word_ev s endW i hs hi (by decide)) ?_
 have hj:=head_j1 a b c d ha hc
 unfold fourN
 simp only
 by_cases hw:wordN s i endW=some s.size
 ·simp only [if_pos ((wordI_size s endW i).2 hw)]
  have tail:¬ (a=0∧b > 0)→Ev (fun k=>if c=0 then r06_head.j1 k [a,b,c,d] (decide (d > 0)) else r06_head.j1 k [a,b,c,d] false)
    (five (if wordN s i endW=some s.size∧¬ (a=0∧b > 0)∧¬ (c=0∧d > 0) then some ⟨lessI a b,b,lessI c d,d,[]⟩ else none)):=by
   intro hn
   by_cases hc0:c=0
   ·simp only [if_pos hc0]
    by_cases hd:d > 0
    ·rw [if_neg (fun h=>h.2.2 ⟨hc0,hd⟩),decide_eq_true hd]
     have:=hj true
     rwa [if_pos rfl] at this
    ·rw [if_pos ⟨hw,hn,fun h=>hd h.2⟩,decide_eq_false hd]
     have:=hj false
     rwa [if_neg Bool.false_ne_true] at this
   ·simp only [if_neg hc0]
    rw [if_pos ⟨hw,hn,fun h=>hc0 h.1⟩]
    have:=hj false
    rwa [if_neg Bool.false_ne_true] at this
  by_cases ha0:a=0
  ·simp only [if_pos ha0]
   by_cases hb:b > 0
   ·simp only [if_pos hb]
    rw [if_neg (fun h=>h.2.1 ⟨ha0,hb⟩)]
    have:=hj true
    rwa [if_pos rfl] at this
   ·simp only [if_neg hb]
    exact tail (fun h=>hb h.2)
  ·simp only [if_neg ha0]
   exact tail (fun h=>ha0 h.1)
 ·simp only [if_neg (show ¬ wordI s i endW=(s.size:Int) from fun h=>hw ((wordI_size s endW i).1 h))]
  rw [if_neg (fun h=>hw h.1)]
  have:=hj true
  rwa [if_pos rfl] at this
theorem head_l0 (s:ByteArray) (hs:s.size≤1048576):∀ (ws done:List ByteArray) (i:Nat) (n:List Int),done++ws=signsL→i≤s.size→n.length=done.length→(∀ v ∈ n,0≤v∧v<2147483648) →
  Ev (fun k=>r06_head.l0 k s n (i:Int) signsL (done.length:Int)) (five ((readN s ws i n).bind (fourN s)))
 | [],done,i,n,hd,hi,hl,hv=>by
  have h4:done.length=4:=by rw [List.append_nil] at hd;rw [hd];rfl
  obtain ⟨a,b,c,d,rfl⟩:∃ a b c d,n=[a,b,c,d]:=by
   rw [h4] at hl
   rcases n with _|⟨a,_|⟨b,_|⟨c,_|⟨d,_|⟨x,r⟩⟩⟩⟩⟩
   ·cases hl
   ·cases hl
   ·cases hl
   ·cases hl
   ·exact ⟨a,b,c,d,rfl⟩
   ·cases hl
  rw [h4]
  exact head_end s i a b c d hs hi (hv a (by simp)) (hv c (by simp))
 | w :: ws,done,i,n,hd,hi,hl,hv=>by
  have hlen:done.length+(ws.length+1)=4:=by
   have:=congrArg List.length hd
   rw [List.length_append,List.length_cons] at this;exact this
  have hdl:done.length<signsL.length:=by show done.length<4;omega
  have hw:rdOf ByteArray.empty signsL (done.length:Int)=w:=by
   rw [rdS_at hdl]
   simp only [← hd]
   rw [List.getElem_append_right (Nat.le_refl _)]
   simp
  have hwm:w ∈ signsL:=by rw [← hd];simp
  have hwz:w.size≤100:=by
   simp only [signsL,List.mem_cons,List.not_mem_nil,or_false] at hwm
   rcases hwm with rfl|rfl|rfl|rfl<;>decide
  refine Ev.step (fun _=>r06_head.l0.eq_2 ..) ?_
  simp only [if_pos (show (done.length:Int)<4 by omega),if_pos (show 0≤(done.length:Int) by omega),if_pos (show (done.length:Int)<(signsL.length:Int) by omega),hw]
  refine Ev.bind (word_ev s w i hs hi hwz) ?_
  rw [readN]
  unfold wordI
  rcases ha:wordN s i w with _|a
  ·simp only [if_pos (show (-1:Int)<0 by decide)];exact Ev.now _
  ·have ha2:a≤s.size:=(wordN_back s w i a ha).2.2 hi
   simp only [if_neg (show ¬ (a:Int)<0 by omega)]
   refine Ev.bind (number_ev s a hs ha2) ?_
   rw [Option.bind_some]
   unfold numI
   rcases hb:numN s a with _|⟨v,b⟩
   ·simp only [if_pos (show (-1:Int)<0 by decide)];exact Ev.now _
   ·obtain ⟨v0,v1,_,hb2⟩:=numN_back s a b v hb
    simp only [if_neg (show ¬ v<0 by omega),if_pos (show n.length<17592186044416 by omega)]
    have e:wrap64 ((done.length:Int)+1)=((done++[w]).length:Int):=by rw [w_in (by omega) (by omega)];simp
    rw [e]
    rw [Option.bind_some]
    exact head_l0 s hs ws (done++[w]) b (n++[v]) (by rw [List.append_assoc];exact hd) (hb2 ha2) (by simp [hl]) (by
     intro x hx
     rcases List.mem_append.1 hx with hx|hx
     ·exact hv x hx
     ·obtain rfl:=List.mem_singleton.1 hx
      exact ⟨v0,v1⟩)
theorem rhead_ev (s:ByteArray) (hs:s.size≤1048576):Ev (fun k=>r06_head.f k s) (five (headB s)):=by
 rw [← headN_eq]
 exact head_l0 s hs signsL [] 0 [] rfl (Nat.zero_le _) rfl (by simp)
end Go.Proofs.YtamojbfmphainaaDoor.Pr
-- shrunk
-- written by a program of this session's (a turned copy of the kit's printer); Lean checks it
namespace Go.Proofs.YtamojbfmphainaaDoor.Pr
open Go.RowKit Go.Proofs.YtamojbfmphainaaDoorW.PrintWords Go.Proofs.YtamojbfmphainaaDoorW.PrintLast Go.Proofs.YtamojbfmphainaaDoorW.PrintMore
attribute [local go_sem] max2_int min2_int max_two min_two max_three min_three max_four min_four   -- for this text's walks alone

mutual
def r06_fits.j0:Nat→ByteArray→Bool→Int→Int→Int→Int→List ByteArray→Option (Bool)
 | 0,_,_,_,_,_,_,_=>none
 | k+1,x1,x26,x222000,x222001,x222002,x222003,x222004=>if x26=true then (some false) else ((some (([]:List ByteArray):List ByteArray)).bind fun y223=>(if y223.length+x222004.length<8796093022208 then ((some (y223++x222004:List ByteArray)).bind fun y226=>(if y226.length<8796093022208 then ((some (y226++[x1]:List ByteArray)).bind fun y229=>(if (y229.length:Int) > 1 then (if 0<(x1.size:Int) then (if (bt x1 0)=45 then (if 0≤(wrap64 ((y229.length:Int) - 2)) then (if (wrap64 ((y229.length:Int) - 2))<(y229.length:Int) then (if 0<((rdOf ByteArray.empty y229 (wrap64 ((y229.length:Int) - 2))).size:Int) then (r06_fits.j1 k y229 ((bt (rdOf ByteArray.empty y229 (wrap64 ((y229.length:Int) - 2))) 0) == 43) x222000 x222001 x222002 x222003 x222004) else (none)) else (none)) else (none)) else (r06_fits.j1 k y229 false x222000 x222001 x222002 x222003 x222004)) else (none)) else (r06_fits.j1 k y229 false x222000 x222001 x222002 x222003 x222004))) else (none))) else (none)))
def r06_fits.j1:Nat→List ByteArray→Bool→Int→Int→Int→Int→List ByteArray→Option (Bool)
 | 0,_,_,_,_,_,_,_=>none
 | k+1,x6,x51,x222000,x222001,x222002,x222003,x222004=>if x51=true then (some false) else ((r05_Many.f k x6 45).bind fun t233=>(if t233≤x222001 then ((r05_Many.f k x6 43).bind fun t234=>(some (decide (t234≤x222003)))) else (some false)))
end
def r06_fits.f (k:Nat) (a0_0:Int) (a0_1:Int) (a0_2:Int) (a0_3:Int) (l0_4:List ByteArray) (a1:ByteArray):Option (Bool):=(r03_Closed.f a1).bind fun t222=>(if t222=true then (if 0<(a1.size:Int) then (if (bt a1 0)=32 then (r06_fits.j0 k a1 false a0_0 a0_1 a0_2 a0_3 l0_4) else (if (bt a1 0)=43 then (r06_fits.j0 k a1 false a0_0 a0_1 a0_2 a0_3 l0_4) else (r06_fits.j0 k a1 ((bt a1 0) != 45) a0_0 a0_1 a0_2 a0_3 l0_4))) else (none)) else (r06_fits.j0 k a1 true a0_0 a0_1 a0_2 a0_3 l0_4))
set_option maxHeartbeats 8000000 in
set_option maxRecDepth 100000 in
theorem r06_fits.calls (k:Nat) (a0_0:Int) (a0_1:Int) (a0_2:Int) (a0_3:Int) (A0_4:Option Addr) (c0_4:Nat) (l0_4:List ByteArray) (a1:ByteArray) (r:Bool) (w:World) (hr0_4:Kd.C Kd.string w A0_4 l0_4.length l0_4) (hc0_4:l0_4.length≤c0_4) (h:r06_fits.f k a0_0 a0_1 a0_2 a0_3 l0_4 a1=some r) :
  Calls Tryd.prog 37 #[.agg #[.int .i64 a0_0,.int .i64 a0_1,.int .i64 a0_2,.int .i64 a0_3,.slice A0_4 l0_4.length c0_4],.string a1] w fun e w'=>e=.returned (.bool r)∧Below w.heap.size w w':=by
 have hu41:=Tryd.underlying41
 have HR0_4:=Aside0.mk hr0_4
 have HC0_4:=Aside0.mk hc0_4
 clear hr0_4 hc0_4
 have HB:=Aside0.mk (Below.refl w.heap.size w)
 have H:((r03_Closed.f a1).bind fun t222=>(if t222=true then (if 0<(a1.size:Int) then (if (bt a1 0)=32 then (r06_fits.j0 k a1 false a0_0 a0_1 a0_2 a0_3 l0_4) else (if (bt a1 0)=43 then (r06_fits.j0 k a1 false a0_0 a0_1 a0_2 a0_3 l0_4) else (r06_fits.j0 k a1 ((bt a1 0) != 45) a0_0 a0_1 a0_2 a0_3 l0_4))) else (none)) else (r06_fits.j0 k a1 true a0_0 a0_1 a0_2 a0_3 l0_4)))=some r:=h
 clear h
 replace H:=Option.bind_eq_some_iff.mp H
 obtain ⟨t222,A30,H⟩:=H
 replace H:(if t222=true then (if 0<(a1.size:Int) then (if (bt a1 0)=32 then (r06_fits.j0 k a1 false a0_0 a0_1 a0_2 a0_3 l0_4) else (if (bt a1 0)=43 then (r06_fits.j0 k a1 false a0_0 a0_1 a0_2 a0_3 l0_4) else (r06_fits.j0 k a1 ((bt a1 0) != 45) a0_0 a0_1 a0_2 a0_3 l0_4))) else (none)) else (r06_fits.j0 k a1 true a0_0 a0_1 a0_2 a0_3 l0_4))=some r:=H
 have A3:=Aside0.mk A30
 clear A30
 have HC4:=Aside0.mk H
 clear H
 go_enter Tryd.func37,Tryd.ntmps37
 go_upto_region 2 with (first|((with_reducible refine gate_dst (N:=2) rfl ?_);refine box_event ?hg (N:=2) ?hd (cs:=#[.int .i64 a0_0,.int .i64 a0_1,.int .i64 a0_2,.int .i64 a0_3,.slice A0_4 l0_4.length c0_4]) (t:=41) ?hr ?_;(case hd=>rfl);(case hg=>rfl);(case hr=>first|(go_simp;done)|(go_simp;rfl));intro gb221 hg w5 hbox hb;have n0_:=Aside0.mk (below_step (by repeat (first|(with_reducible first|exact HB.out|apply below_alloc|apply pw_below_drewN|apply below_drew1)|exact HB.out)) hb);have n1_:=Aside0.mk (hbox);have n2_:=Aside0.mk ((by rw [hg];exact (below_size (by repeat (first|(with_reducible first|exact HB.out|apply below_alloc|apply pw_below_drewN|apply below_drew1)|exact HB.out))):w.heap.size≤gb221));have n3_:=Aside0.mk ((by rw [hg];exact (below_size (by repeat (first|(with_reducible first|exact HB.out|apply below_alloc|apply pw_below_drewN|apply below_drew1)|exact HB.out))):w.heap.size≤gb221));clear HB;have HB:=n0_;have BK221:=n1_;have GW221:=n2_;have GE221:=n3_;clear n0_ n1_ n2_ n3_;clear hb hbox hg)|(go_at_call 29;(with_reducible refine (r03_Closed.calls a1 t222 _ A3.out).mono ?_);rintro e w' ⟨rfl,⟨nd,rfl⟩⟩;(try first|exact ⟨rfl,_,World.drewN_drewN _ _ _⟩|exact ⟨rfl,_,Eq.trans (World.drewN_drewN _ _ _) (congrArg (World.drewN _) (Nat.add_assoc _ _ _))⟩)))
 repeat (go_quiet (first|((with_reducible refine gate_dst (N:=2) rfl ?_);refine box_event ?hg (N:=2) ?hd (cs:=#[.int .i64 a0_0,.int .i64 a0_1,.int .i64 a0_2,.int .i64 a0_3,.slice A0_4 l0_4.length c0_4]) (t:=41) ?hr ?_;(case hd=>rfl);(case hg=>rfl);(case hr=>first|(go_simp;done)|(go_simp;rfl));intro gb221 hg w5 hbox hb;have n0_:=Aside0.mk (below_step (by repeat (first|(with_reducible first|exact HB.out|apply below_alloc|apply pw_below_drewN|apply below_drew1)|exact HB.out)) hb);have n1_:=Aside0.mk (hbox);have n2_:=Aside0.mk ((by rw [hg];exact (below_size (by repeat (first|(with_reducible first|exact HB.out|apply below_alloc|apply pw_below_drewN|apply below_drew1)|exact HB.out))):w.heap.size≤gb221));have n3_:=Aside0.mk ((by rw [hg];exact (below_size (by repeat (first|(with_reducible first|exact HB.out|apply below_alloc|apply pw_below_drewN|apply below_drew1)|exact HB.out))):w.heap.size≤gb221));clear HB;have HB:=n0_;have BK221:=n1_;have GW221:=n2_;have GE221:=n3_;clear n0_ n1_ n2_ n3_;clear hb hbox hg)|(go_at_call 29;(with_reducible refine (r03_Closed.calls a1 t222 _ A3.out).mono ?_);rintro e w' ⟨rfl,⟨nd,rfl⟩⟩;(try first|exact ⟨rfl,_,World.drewN_drewN _ _ _⟩|exact ⟨rfl,_,Eq.trans (World.drewN_drewN _ _ _) (congrArg (World.drewN _) (Nat.add_assoc _ _ _))⟩)));go_upto_region 2 with (first|((with_reducible refine gate_dst (N:=2) rfl ?_);refine box_event ?hg (N:=2) ?hd (cs:=#[.int .i64 a0_0,.int .i64 a0_1,.int .i64 a0_2,.int .i64 a0_3,.slice A0_4 l0_4.length c0_4]) (t:=41) ?hr ?_;(case hd=>rfl);(case hg=>rfl);(case hr=>first|(go_simp;done)|(go_simp;rfl));intro gb221 hg w5 hbox hb;have n0_:=Aside0.mk (below_step (by repeat (first|(with_reducible first|exact HB.out|apply below_alloc|apply pw_below_drewN|apply below_drew1)|exact HB.out)) hb);have n1_:=Aside0.mk (hbox);have n2_:=Aside0.mk ((by rw [hg];exact (below_size (by repeat (first|(with_reducible first|exact HB.out|apply below_alloc|apply pw_below_drewN|apply below_drew1)|exact HB.out))):w.heap.size≤gb221));have n3_:=Aside0.mk ((by rw [hg];exact (below_size (by repeat (first|(with_reducible first|exact HB.out|apply below_alloc|apply pw_below_drewN|apply below_drew1)|exact HB.out))):w.heap.size≤gb221));clear HB;have HB:=n0_;have BK221:=n1_;have GW221:=n2_;have GE221:=n3_;clear n0_ n1_ n2_ n3_;clear hb hbox hg)|(go_at_call 29;(with_reducible refine (r03_Closed.calls a1 t222 _ A3.out).mono ?_);rintro e w' ⟨rfl,⟨nd,rfl⟩⟩;(try first|exact ⟨rfl,_,World.drewN_drewN _ _ _⟩|exact ⟨rfl,_,Eq.trans (World.drewN_drewN _ _ _) (congrArg (World.drewN _) (Nat.add_assoc _ _ _))⟩))))
 (try simp only [Act.put,List.setIfInBounds_toArray,List.set_cons_zero,List.set_cons_succ])
 go_cut [26] (fun v26 wc=>∃ (kq:Nat) (x26_3:Bool),v26=.bool x26_3∧Aside0 (r06_fits.j0 kq a1 x26_3 a0_0 a0_1 a0_2 a0_3 l0_4=some r)∧Aside0 (kq≤k)∧Aside0 (wc.heap[gb221]?=some (.cells #[.int .i64 a0_0,.int .i64 a0_1,.int .i64 a0_2,.int .i64 a0_3,(.slice A0_4 l0_4.length c0_4)] 41 (0,0)))∧Aside0 (Below w.heap.size w wc))
 case first =>
  have H:=HC4.out
  clear HC4
  by_cases c6:t222=true
  ·subst c6
   have H1:(if 0<(a1.size:Int) then (if (bt a1 0)=32 then (r06_fits.j0 k a1 false a0_0 a0_1 a0_2 a0_3 l0_4) else (if (bt a1 0)=43 then (r06_fits.j0 k a1 false a0_0 a0_1 a0_2 a0_3 l0_4) else (r06_fits.j0 k a1 ((bt a1 0) != 45) a0_0 a0_1 a0_2 a0_3 l0_4))) else (none))=some r:=by rw [if_pos rfl] at H;exact H
   clear H
   have H:=H1
   clear H1
   by_cases c7:0<(a1.size:Int)
   ·rw [if_pos c7] at H
    have c7b0:decide (0<(a1.size:Int))=true:=decide_eq_true c7
    have c7b1:decide (0<a1.size)=true:=decide_eq_true (by omega)
    clear c7
    (first|rw [c7b0]|(simp only [i64_w,i32_w];rw [c7b0])|skip)
    by_cases c9:(bt a1 0)=32
    ·rw [if_pos c9] at H
     have c9b0:((bt a1 0) == 32)=true:=beq_iff_eq.mpr c9
     have c9b1:((bt a1 0) != 32)=false:=bne_eq_false_iff_eq.mpr c9
     clear c9
     have H':=Aside0.mk H
     clear H
     have p8:0≤(0:Int):=(by omega)
     have q8:0<a1.size:=(by have:(0:Int)<(a1.size:Int):=of_decide_eq_true (by first|(with_reducible assumption)|assumption);omega)
     have hx8:∀ h:0<a1.size,((a1[0]'h).toNat:Int)=bt a1 0:=bt_at a1 0
     clear p8
     have qi8:(0<(a1.size:Int))=True:=eq_true (of_decide_eq_true (by first|(with_reducible assumption)|assumption))
     replace q8:=eq_true q8
     go_wp2
     repeat (go_quiet (fail);try go_wp2)
     go_meet
     case rel=>exact ⟨_,(false),(by first|rfl|(simp;done)|(simp [*];done)),H',⟨by first|omega|exact Nat.le_refl _⟩,⟨by (with_reducible repeat (first|refine blk_drewN ?_ _|refine blk_drew ?_|refine blk_alloc ?_ _));exact BK221.out⟩,⟨by repeat (first|(with_reducible first|exact HB.out|apply below_alloc|apply pw_below_drewN|apply below_drew1|refine below_set ?_ GE221.out)|exact HB.out)⟩⟩
    ·rw [if_neg c9] at H
     have c9b0:((bt a1 0) == 32)=false:=beq_eq_false_iff_ne.mpr c9
     have c9b1:((bt a1 0) != 32)=true:=bne_iff_ne.mpr c9
     by_cases c11:(bt a1 0)=43
     ·rw [if_pos c11] at H
      have c11b0:((bt a1 0) == 43)=true:=beq_iff_eq.mpr c11
      have c11b1:((bt a1 0) != 43)=false:=bne_eq_false_iff_eq.mpr c11
      clear c11
      have H':=Aside0.mk H
      clear H
      have p8:0≤(0:Int):=(by omega)
      have q8:0<a1.size:=(by have:(0:Int)<(a1.size:Int):=of_decide_eq_true (by first|(with_reducible assumption)|assumption);omega)
      have hx8:∀ h:0<a1.size,((a1[0]'h).toNat:Int)=bt a1 0:=bt_at a1 0
      clear p8
      have qi8:(0<(a1.size:Int))=True:=eq_true (of_decide_eq_true (by first|(with_reducible assumption)|assumption))
      replace q8:=eq_true q8
      have p10:0≤(0:Int):=(by omega)
      have q10:0<a1.size:=(by have:(0:Int)<(a1.size:Int):=of_decide_eq_true (by first|(with_reducible assumption)|assumption);omega)
      have hx10:∀ h:0<a1.size,((a1[0]'h).toNat:Int)=bt a1 0:=bt_at a1 0
      clear p10
      have qi10:(0<(a1.size:Int))=True:=eq_true (of_decide_eq_true (by first|(with_reducible assumption)|assumption))
      replace q10:=eq_true q10
      go_wp2
      repeat (go_quiet (fail);try go_wp2)
      go_meet
      case rel=>exact ⟨_,(false),(by first|rfl|(simp;done)|(simp [*];done)),H',⟨by first|omega|exact Nat.le_refl _⟩,⟨by (with_reducible repeat (first|refine blk_drewN ?_ _|refine blk_drew ?_|refine blk_alloc ?_ _));exact BK221.out⟩,⟨by repeat (first|(with_reducible first|exact HB.out|apply below_alloc|apply pw_below_drewN|apply below_drew1|refine below_set ?_ GE221.out)|exact HB.out)⟩⟩
     ·rw [if_neg c11] at H
      have c11b0:((bt a1 0) == 43)=false:=beq_eq_false_iff_ne.mpr c11
      have c11b1:((bt a1 0) != 43)=true:=bne_iff_ne.mpr c11
      have H':=Aside0.mk H
      clear H
      have p8:0≤(0:Int):=(by omega)
      have q8:0<a1.size:=(by have:(0:Int)<(a1.size:Int):=of_decide_eq_true (by first|(with_reducible assumption)|assumption);omega)
      have hx8:∀ h:0<a1.size,((a1[0]'h).toNat:Int)=bt a1 0:=bt_at a1 0
      clear p8
      have qi8:(0<(a1.size:Int))=True:=eq_true (of_decide_eq_true (by first|(with_reducible assumption)|assumption))
      replace q8:=eq_true q8
      have p10:0≤(0:Int):=(by omega)
      have q10:0<a1.size:=(by have:(0:Int)<(a1.size:Int):=of_decide_eq_true (by first|(with_reducible assumption)|assumption);omega)
      have hx10:∀ h:0<a1.size,((a1[0]'h).toNat:Int)=bt a1 0:=bt_at a1 0
      clear p10
      have qi10:(0<(a1.size:Int))=True:=eq_true (of_decide_eq_true (by first|(with_reducible assumption)|assumption))
      replace q10:=eq_true q10
      have p12:0≤(0:Int):=(by omega)
      have q12:0<a1.size:=(by have:(0:Int)<(a1.size:Int):=of_decide_eq_true (by first|(with_reducible assumption)|assumption);omega)
      have hx12:∀ h:0<a1.size,((a1[0]'h).toNat:Int)=bt a1 0:=bt_at a1 0
      clear p12
      have qi12:(0<(a1.size:Int))=True:=eq_true (of_decide_eq_true (by first|(with_reducible assumption)|assumption))
      replace q12:=eq_true q12
      go_wp2
      repeat (go_quiet (fail);try go_wp2)
      go_meet
      case rel=>exact ⟨_,(((bt a1 0) != 45)),(by first|rfl|(simp;done)|(simp [*];done)),H',⟨by first|omega|exact Nat.le_refl _⟩,⟨by (with_reducible repeat (first|refine blk_drewN ?_ _|refine blk_drew ?_|refine blk_alloc ?_ _));exact BK221.out⟩,⟨by repeat (first|(with_reducible first|exact HB.out|apply below_alloc|apply pw_below_drewN|apply below_drew1|refine below_set ?_ GE221.out)|exact HB.out)⟩⟩
   ·rw [if_neg c7] at H
    exact absurd H (by simp)
  ·replace c6:=Bool.eq_false_iff.mpr c6
   subst c6
   have H1:(r06_fits.j0 k a1 true a0_0 a0_1 a0_2 a0_3 l0_4)=some r:=by rw [if_neg (show ¬ (false=true) by decide)] at H;exact H
   clear H
   have H:=H1
   clear H1
   have H':=Aside0.mk H
   clear H
   go_wp2
   repeat (go_quiet (fail);try go_wp2)
   go_meet
   case rel=>exact ⟨_,(true),(by first|rfl|(simp;done)|(simp [*];done)),H',⟨by first|omega|exact Nat.le_refl _⟩,⟨by (with_reducible repeat (first|refine blk_drewN ?_ _|refine blk_drew ?_|refine blk_alloc ?_ _));exact BK221.out⟩,⟨by repeat (first|(with_reducible first|exact HB.out|apply below_alloc|apply pw_below_drewN|apply below_drew1|refine below_set ?_ GE221.out)|exact HB.out)⟩⟩
 case rest =>
  clear HC4
  try clear c1
  try clear p1
  try clear q1
  try clear hx1
  try clear qi1
  try clear p2
  try clear c3
  try clear c6
  try clear c7
  try clear c7b0
  try clear c7b1
  try clear p8
  try clear q8
  try clear hx8
  try clear qi8
  try clear c9
  try clear c9b0
  try clear c9b1
  try clear p10
  try clear q10
  try clear hx10
  try clear qi10
  try clear c11
  try clear c11b0
  try clear c11b1
  try clear p12
  try clear q12
  try clear hx12
  try clear qi12
  try clear p10
  try clear p12
  try clear p8
  try clear q10
  try clear q12
  try clear q8
  obtain ⟨kq,x26_3,rfl,HA,HJ3,BK221,HB⟩:=hcut
  cases kq with
  | zero=>exact absurd HA.out (by simp [r06_fits.j0])
  | succ kj3 =>
   have H:=HA.out
   clear HA
   simp only [r06_fits.j0] at H
   by_cases c13:x26_3=true
   ·subst c13
    have H1:(some false)=some r:=by rw [if_pos rfl] at H;exact H
    clear H
    have H:=H1
    clear H1
    obtain rfl:=Option.some.inj H
    go_wp2
    repeat (go_quiet (fail);try go_wp2)
    go_ret
    exact ⟨by first|rfl|(simp [errW_none,errW_some]<;>rfl)|(simp [*,errW_none,errW_some]<;>rfl),by repeat (first|(with_reducible first|exact HB.out|apply below_alloc|apply pw_below_drewN|apply below_drew1|refine below_set ?_ GE221.out)|exact HB.out)⟩
   ·replace c13:=Bool.eq_false_iff.mpr c13
    subst c13
    have H1:((some (([]:List ByteArray):List ByteArray)).bind fun y223=>(if y223.length+l0_4.length<8796093022208 then ((some (y223++l0_4:List ByteArray)).bind fun y226=>(if y226.length<8796093022208 then ((some (y226++[a1]:List ByteArray)).bind fun y229=>(if (y229.length:Int) > 1 then (if 0<(a1.size:Int) then (if (bt a1 0)=45 then (if 0≤(wrap64 ((y229.length:Int) - 2)) then (if (wrap64 ((y229.length:Int) - 2))<(y229.length:Int) then (if 0<((rdOf ByteArray.empty y229 (wrap64 ((y229.length:Int) - 2))).size:Int) then (r06_fits.j1 kj3 y229 ((bt (rdOf ByteArray.empty y229 (wrap64 ((y229.length:Int) - 2))) 0) == 43) a0_0 a0_1 a0_2 a0_3 l0_4) else (none)) else (none)) else (none)) else (r06_fits.j1 kj3 y229 false a0_0 a0_1 a0_2 a0_3 l0_4)) else (none)) else (r06_fits.j1 kj3 y229 false a0_0 a0_1 a0_2 a0_3 l0_4))) else (none))) else (none)))=some r:=by rw [if_neg (show ¬ (false=true) by decide)] at H;exact H
    clear H
    have H:=H1
    clear H1
    obtain ⟨y223,hy223⟩:∃ y_:List ByteArray,y_=(([]:List ByteArray)):=⟨_,rfl⟩
    replace H:(if y223.length+l0_4.length<8796093022208 then ((some (y223++l0_4:List ByteArray)).bind fun y226=>(if y226.length<8796093022208 then ((some (y226++[a1]:List ByteArray)).bind fun y229=>(if (y229.length:Int) > 1 then (if 0<(a1.size:Int) then (if (bt a1 0)=45 then (if 0≤(wrap64 ((y229.length:Int) - 2)) then (if (wrap64 ((y229.length:Int) - 2))<(y229.length:Int) then (if 0<((rdOf ByteArray.empty y229 (wrap64 ((y229.length:Int) - 2))).size:Int) then (r06_fits.j1 kj3 y229 ((bt (rdOf ByteArray.empty y229 (wrap64 ((y229.length:Int) - 2))) 0) == 43) a0_0 a0_1 a0_2 a0_3 l0_4) else (none)) else (none)) else (none)) else (r06_fits.j1 kj3 y229 false a0_0 a0_1 a0_2 a0_3 l0_4)) else (none)) else (r06_fits.j1 kj3 y229 false a0_0 a0_1 a0_2 a0_3 l0_4))) else (none))) else (none))=some r:=by first|(rw [hy223];with_reducible exact H)|(have H2_:=(Option.bind_some _ _).symm.trans H;rw [hy223];with_reducible exact H2_)|(have H2_:=(Option.bind_some _ _).symm.trans H;with_reducible exact H2_)|with_reducible exact H|(rw [hy223];exact H)|exact H
    have Ny223:=Aside0.mk hy223
    clear hy223
    by_cases c14:y223.length+l0_4.length<8796093022208
    ·rw [if_pos c14] at H
     have LMc14:=Aside0.mk c14
     clear c14
     obtain ⟨y226,hy226⟩:∃ y_:List ByteArray,y_=(y223++l0_4):=⟨_,rfl⟩
     replace H:(if y226.length<8796093022208 then ((some (y226++[a1]:List ByteArray)).bind fun y229=>(if (y229.length:Int) > 1 then (if 0<(a1.size:Int) then (if (bt a1 0)=45 then (if 0≤(wrap64 ((y229.length:Int) - 2)) then (if (wrap64 ((y229.length:Int) - 2))<(y229.length:Int) then (if 0<((rdOf ByteArray.empty y229 (wrap64 ((y229.length:Int) - 2))).size:Int) then (r06_fits.j1 kj3 y229 ((bt (rdOf ByteArray.empty y229 (wrap64 ((y229.length:Int) - 2))) 0) == 43) a0_0 a0_1 a0_2 a0_3 l0_4) else (none)) else (none)) else (none)) else (r06_fits.j1 kj3 y229 false a0_0 a0_1 a0_2 a0_3 l0_4)) else (none)) else (r06_fits.j1 kj3 y229 false a0_0 a0_1 a0_2 a0_3 l0_4))) else (none))=some r:=by first|(rw [hy226];with_reducible exact H)|(have H2_:=(Option.bind_some _ _).symm.trans H;rw [hy226];with_reducible exact H2_)|(have H2_:=(Option.bind_some _ _).symm.trans H;with_reducible exact H2_)|with_reducible exact H|(rw [hy226];exact H)|exact H
     have Ny226:=Aside0.mk hy226
     clear hy226
     by_cases c15:y226.length<8796093022208
     ·rw [if_pos c15] at H
      have LMc15:=Aside0.mk c15
      clear c15
      obtain ⟨y229,hy229⟩:∃ y_:List ByteArray,y_=(y226++[a1]):=⟨_,rfl⟩
      replace H:(if (y229.length:Int) > 1 then (if 0<(a1.size:Int) then (if (bt a1 0)=45 then (if 0≤(wrap64 ((y229.length:Int) - 2)) then (if (wrap64 ((y229.length:Int) - 2))<(y229.length:Int) then (if 0<((rdOf ByteArray.empty y229 (wrap64 ((y229.length:Int) - 2))).size:Int) then (r06_fits.j1 kj3 y229 ((bt (rdOf ByteArray.empty y229 (wrap64 ((y229.length:Int) - 2))) 0) == 43) a0_0 a0_1 a0_2 a0_3 l0_4) else (none)) else (none)) else (none)) else (r06_fits.j1 kj3 y229 false a0_0 a0_1 a0_2 a0_3 l0_4)) else (none)) else (r06_fits.j1 kj3 y229 false a0_0 a0_1 a0_2 a0_3 l0_4))=some r:=by first|(rw [hy229];with_reducible exact H)|(have H2_:=(Option.bind_some _ _).symm.trans H;rw [hy229];with_reducible exact H2_)|(have H2_:=(Option.bind_some _ _).symm.trans H;with_reducible exact H2_)|with_reducible exact H|(rw [hy229];exact H)|exact H
      have Ny229:=Aside0.mk hy229
      clear hy229
      have HC16:=Aside0.mk H
      clear H
      go_upto_region 6 with (first|((with_reducible refine gate_dst (N:=27) rfl ?_);refine Kd.R_lit Kd.string _ 9 ?hg (N:=27) ?hd (xs:=([]:List ByteArray)) (inner:=[]) (ok:=fun _=>True) (okp:=fun _=>True) ?hr ?hp (fun _ hk=>hk) trivial (Below.refl _ _) (Nat.le_refl _) (by simp) ?_;(case hd=>rfl);(case hg=>rfl);(case hr=>first|(go_simp;done)|(go_simp;rfl));(case hp=>exact (Reps.none _ _));intro v224 w17 ho18 hb hg_ hnew_;clear hg_ hnew_;(first|rw [← Ny223.out] at ho18|(simp only [Int.reduceToNat] at ho18;rw [← Ny223.out] at ho18));have n0_:=Aside0.mk (Kd.R_lower ho18 (below_size (by repeat (first|(with_reducible first|exact HB.out|apply below_alloc|apply pw_below_drewN|apply below_drew1|refine below_set ?_ GE221.out)|exact HB.out))));have n1_:=Aside0.mk (blk_below (g:=gb221) (o:=.cells #[.int .i64 a0_0,.int .i64 a0_1,.int .i64 a0_2,.int .i64 a0_3,.slice A0_4 l0_4.length c0_4] 41 (0,0)) (by (with_reducible repeat (first|refine blk_drewN ?_ _|refine blk_drew ?_|refine blk_alloc ?_ _));exact BK221.out) hb);have n2_:=Aside0.mk (below_step (by repeat (first|(with_reducible first|exact HB.out|apply below_alloc|apply pw_below_drewN|apply below_drew1|refine below_set ?_ GE221.out)|exact HB.out)) hb);clear BK221;clear HB;have HO225:=n0_;have BK221:=n1_;have HB:=n2_;clear n0_ n1_ n2_;clear hb ho18;have hcz19_0:w17.cell? ⟨gb221,0,none⟩=some (.int .i64 a0_0):=(blk_cell BK221.out 0).trans rfl;have hcz19_1:w17.cell? ⟨gb221,1,none⟩=some (.int .i64 a0_1):=(blk_cell BK221.out 1).trans rfl;have hcz19_2:w17.cell? ⟨gb221,2,none⟩=some (.int .i64 a0_2):=(blk_cell BK221.out 2).trans rfl;have hcz19_3:w17.cell? ⟨gb221,3,none⟩=some (.int .i64 a0_3):=(blk_cell BK221.out 3).trans rfl;have hcz19_4:w17.cell? ⟨gb221,4,none⟩=some (.slice A0_4 l0_4.length c0_4):=(blk_cell BK221.out 4).trans rfl;have hfz19_0:=blk_frozen BK221.out 0;have hfz19_1:=blk_frozen BK221.out 1;have hfz19_2:=blk_frozen BK221.out 2;have hfz19_3:=blk_frozen BK221.out 3;have hfz19_4:=blk_frozen BK221.out 4)|((with_reducible refine gate_builtin (b:=.append) (xs:=#[.tmp 27,.tmp 29]) rfl ?_);at_builtin;refine Kd.R_append_rows Kd.string (w0:=w) w.heap.size rfl (.tmp 27) (.tmp 29) 33 9 (.string ⟨#[]⟩) 16 rfl Tryd.underlying33 info9 rfl (by decide) (by omega) v224 y223 l0_4 _ _ _ (fun _=>True) (fun _=>False) rfl rfl ?aO ?aR (fun _ _ h=>h) (fun _ h=>h.elim) ?aF ?aB ?aS ?aL ?_;(case aR=>repeat (first|exact (Kd.C_below HR0_4.out HB.out)|(with_reducible refine Kd.C_alloc ?_ _)|(with_reducible refine Kd.C_drewN ?_ _)|(with_reducible refine Kd.C_drew ?_)));(case aB=>exact (by repeat (first|(with_reducible first|exact HB.out|apply below_alloc|apply pw_below_drewN|apply below_drew1|refine below_set ?_ GE221.out)|exact HB.out)));(case aF=>exact (fun _ _=>trivial));(case aO=>exact (by (with_reducible repeat (first|apply Kd.R_alloc|apply Kd.R_drewN|apply Kd.R_drew));exact HO225.out));(case aS=>exact (below_size (by repeat (first|(with_reducible first|exact HB.out|apply below_alloc|apply pw_below_drewN|apply below_drew1|refine below_set ?_ GE221.out)|exact HB.out))));(case aL=>have:=LMc14.out;omega);intro v227 w20 ho hb hg hat;rw [← Ny226.out] at ho;have n0_:=Aside0.mk (blk_grown (g:=gb221) (o:=.cells #[.int .i64 a0_0,.int .i64 a0_1,.int .i64 a0_2,.int .i64 a0_3,.slice A0_4 l0_4.length c0_4] 41 (0,0)) (by (with_reducible repeat (first|refine blk_drewN ?_ _|refine blk_drew ?_|refine blk_alloc ?_ _));exact BK221.out) hg (Kd.R_ne HO225.out BK221.out (by decide)));have n1_:=Aside0.mk (hb);have n2_:=Aside0.mk (ho);clear BK221;clear HB;clear HO225;have BK221:=n0_;have HB:=n1_;have HO228:=n2_;clear n0_ n1_ n2_;clear ho hb hg hat)|((with_reducible refine gate_builtin (b:=.append) (xs:=#[.tmp 30,.tmp 32]) rfl ?_);at_builtin;refine Kd.R_append Kd.string (w0:=w) w.heap.size rfl (.tmp 30) (.tmp 32) 33 9 (.string ⟨#[]⟩) 16 rfl Tryd.underlying33 info9 rfl (by decide) (by omega) v227 y226 a1 [.string a1] (fun _=>True) (fun _=>False) rfl rfl ?aP (fun _ hk=>hk.elim) ?aF ?aO ?aB ?aS ?aL ?_;(case aP=>exact rfl);(case aB=>exact (by repeat (first|(with_reducible first|exact HB.out|apply below_alloc|apply pw_below_drewN|apply below_drew1|refine below_set ?_ GE221.out)|exact HB.out)));(case aF=>exact (fun _ _=>trivial));(case aO=>exact (by (with_reducible repeat (first|apply Kd.R_alloc|apply Kd.R_drewN|apply Kd.R_drew));exact HO228.out));(case aS=>exact (below_size (by repeat (first|(with_reducible first|exact HB.out|apply below_alloc|apply pw_below_drewN|apply below_drew1|refine below_set ?_ GE221.out)|exact HB.out))));(case aL=>have:=LMc15.out;omega);intro v230 w21 ho hb hg hat;rw [← Ny229.out] at ho;have n0_:=Aside0.mk (blk_grown (g:=gb221) (o:=.cells #[.int .i64 a0_0,.int .i64 a0_1,.int .i64 a0_2,.int .i64 a0_3,.slice A0_4 l0_4.length c0_4] 41 (0,0)) (by (with_reducible repeat (first|refine blk_drewN ?_ _|refine blk_drew ?_|refine blk_alloc ?_ _));exact BK221.out) hg (Kd.R_ne HO228.out BK221.out (by decide)));have n1_:=Aside0.mk (hb);have n2_:=Aside0.mk (ho);clear BK221;clear HB;clear HO228;have BK221:=n0_;have HB:=n1_;have HO231:=n2_;clear n0_ n1_ n2_;clear ho hb hg hat;obtain ⟨Ao22,co22,eo22⟩:=Kd.R_slice HO231.out;subst eo22))
      repeat (go_quiet (first|((with_reducible refine gate_dst (N:=27) rfl ?_);refine Kd.R_lit Kd.string _ 9 ?hg (N:=27) ?hd (xs:=([]:List ByteArray)) (inner:=[]) (ok:=fun _=>True) (okp:=fun _=>True) ?hr ?hp (fun _ hk=>hk) trivial (Below.refl _ _) (Nat.le_refl _) (by simp) ?_;(case hd=>rfl);(case hg=>rfl);(case hr=>first|(go_simp;done)|(go_simp;rfl));(case hp=>exact (Reps.none _ _));intro v224 w17 ho18 hb hg_ hnew_;clear hg_ hnew_;(first|rw [← Ny223.out] at ho18|(simp only [Int.reduceToNat] at ho18;rw [← Ny223.out] at ho18));have n0_:=Aside0.mk (Kd.R_lower ho18 (below_size (by repeat (first|(with_reducible first|exact HB.out|apply below_alloc|apply pw_below_drewN|apply below_drew1|refine below_set ?_ GE221.out)|exact HB.out))));have n1_:=Aside0.mk (blk_below (g:=gb221) (o:=.cells #[.int .i64 a0_0,.int .i64 a0_1,.int .i64 a0_2,.int .i64 a0_3,.slice A0_4 l0_4.length c0_4] 41 (0,0)) (by (with_reducible repeat (first|refine blk_drewN ?_ _|refine blk_drew ?_|refine blk_alloc ?_ _));exact BK221.out) hb);have n2_:=Aside0.mk (below_step (by repeat (first|(with_reducible first|exact HB.out|apply below_alloc|apply pw_below_drewN|apply below_drew1|refine below_set ?_ GE221.out)|exact HB.out)) hb);clear BK221;clear HB;have HO225:=n0_;have BK221:=n1_;have HB:=n2_;clear n0_ n1_ n2_;clear hb ho18;have hcz19_0:w17.cell? ⟨gb221,0,none⟩=some (.int .i64 a0_0):=(blk_cell BK221.out 0).trans rfl;have hcz19_1:w17.cell? ⟨gb221,1,none⟩=some (.int .i64 a0_1):=(blk_cell BK221.out 1).trans rfl;have hcz19_2:w17.cell? ⟨gb221,2,none⟩=some (.int .i64 a0_2):=(blk_cell BK221.out 2).trans rfl;have hcz19_3:w17.cell? ⟨gb221,3,none⟩=some (.int .i64 a0_3):=(blk_cell BK221.out 3).trans rfl;have hcz19_4:w17.cell? ⟨gb221,4,none⟩=some (.slice A0_4 l0_4.length c0_4):=(blk_cell BK221.out 4).trans rfl;have hfz19_0:=blk_frozen BK221.out 0;have hfz19_1:=blk_frozen BK221.out 1;have hfz19_2:=blk_frozen BK221.out 2;have hfz19_3:=blk_frozen BK221.out 3;have hfz19_4:=blk_frozen BK221.out 4)|((with_reducible refine gate_builtin (b:=.append) (xs:=#[.tmp 27,.tmp 29]) rfl ?_);at_builtin;refine Kd.R_append_rows Kd.string (w0:=w) w.heap.size rfl (.tmp 27) (.tmp 29) 33 9 (.string ⟨#[]⟩) 16 rfl Tryd.underlying33 info9 rfl (by decide) (by omega) v224 y223 l0_4 _ _ _ (fun _=>True) (fun _=>False) rfl rfl ?aO ?aR (fun _ _ h=>h) (fun _ h=>h.elim) ?aF ?aB ?aS ?aL ?_;(case aR=>repeat (first|exact (Kd.C_below HR0_4.out HB.out)|(with_reducible refine Kd.C_alloc ?_ _)|(with_reducible refine Kd.C_drewN ?_ _)|(with_reducible refine Kd.C_drew ?_)));(case aB=>exact (by repeat (first|(with_reducible first|exact HB.out|apply below_alloc|apply pw_below_drewN|apply below_drew1|refine below_set ?_ GE221.out)|exact HB.out)));(case aF=>exact (fun _ _=>trivial));(case aO=>exact (by (with_reducible repeat (first|apply Kd.R_alloc|apply Kd.R_drewN|apply Kd.R_drew));exact HO225.out));(case aS=>exact (below_size (by repeat (first|(with_reducible first|exact HB.out|apply below_alloc|apply pw_below_drewN|apply below_drew1|refine below_set ?_ GE221.out)|exact HB.out))));(case aL=>have:=LMc14.out;omega);intro v227 w20 ho hb hg hat;rw [← Ny226.out] at ho;have n0_:=Aside0.mk (blk_grown (g:=gb221) (o:=.cells #[.int .i64 a0_0,.int .i64 a0_1,.int .i64 a0_2,.int .i64 a0_3,.slice A0_4 l0_4.length c0_4] 41 (0,0)) (by (with_reducible repeat (first|refine blk_drewN ?_ _|refine blk_drew ?_|refine blk_alloc ?_ _));exact BK221.out) hg (Kd.R_ne HO225.out BK221.out (by decide)));have n1_:=Aside0.mk (hb);have n2_:=Aside0.mk (ho);clear BK221;clear HB;clear HO225;have BK221:=n0_;have HB:=n1_;have HO228:=n2_;clear n0_ n1_ n2_;clear ho hb hg hat)|((with_reducible refine gate_builtin (b:=.append) (xs:=#[.tmp 30,.tmp 32]) rfl ?_);at_builtin;refine Kd.R_append Kd.string (w0:=w) w.heap.size rfl (.tmp 30) (.tmp 32) 33 9 (.string ⟨#[]⟩) 16 rfl Tryd.underlying33 info9 rfl (by decide) (by omega) v227 y226 a1 [.string a1] (fun _=>True) (fun _=>False) rfl rfl ?aP (fun _ hk=>hk.elim) ?aF ?aO ?aB ?aS ?aL ?_;(case aP=>exact rfl);(case aB=>exact (by repeat (first|(with_reducible first|exact HB.out|apply below_alloc|apply pw_below_drewN|apply below_drew1|refine below_set ?_ GE221.out)|exact HB.out)));(case aF=>exact (fun _ _=>trivial));(case aO=>exact (by (with_reducible repeat (first|apply Kd.R_alloc|apply Kd.R_drewN|apply Kd.R_drew));exact HO228.out));(case aS=>exact (below_size (by repeat (first|(with_reducible first|exact HB.out|apply below_alloc|apply pw_below_drewN|apply below_drew1|refine below_set ?_ GE221.out)|exact HB.out))));(case aL=>have:=LMc15.out;omega);intro v230 w21 ho hb hg hat;rw [← Ny229.out] at ho;have n0_:=Aside0.mk (blk_grown (g:=gb221) (o:=.cells #[.int .i64 a0_0,.int .i64 a0_1,.int .i64 a0_2,.int .i64 a0_3,.slice A0_4 l0_4.length c0_4] 41 (0,0)) (by (with_reducible repeat (first|refine blk_drewN ?_ _|refine blk_drew ?_|refine blk_alloc ?_ _));exact BK221.out) hg (Kd.R_ne HO228.out BK221.out (by decide)));have n1_:=Aside0.mk (hb);have n2_:=Aside0.mk (ho);clear BK221;clear HB;clear HO228;have BK221:=n0_;have HB:=n1_;have HO231:=n2_;clear n0_ n1_ n2_;clear ho hb hg hat;obtain ⟨Ao22,co22,eo22⟩:=Kd.R_slice HO231.out;subst eo22));go_upto_region 6 with (first|((with_reducible refine gate_dst (N:=27) rfl ?_);refine Kd.R_lit Kd.string _ 9 ?hg (N:=27) ?hd (xs:=([]:List ByteArray)) (inner:=[]) (ok:=fun _=>True) (okp:=fun _=>True) ?hr ?hp (fun _ hk=>hk) trivial (Below.refl _ _) (Nat.le_refl _) (by simp) ?_;(case hd=>rfl);(case hg=>rfl);(case hr=>first|(go_simp;done)|(go_simp;rfl));(case hp=>exact (Reps.none _ _));intro v224 w17 ho18 hb hg_ hnew_;clear hg_ hnew_;(first|rw [← Ny223.out] at ho18|(simp only [Int.reduceToNat] at ho18;rw [← Ny223.out] at ho18));have n0_:=Aside0.mk (Kd.R_lower ho18 (below_size (by repeat (first|(with_reducible first|exact HB.out|apply below_alloc|apply pw_below_drewN|apply below_drew1|refine below_set ?_ GE221.out)|exact HB.out))));have n1_:=Aside0.mk (blk_below (g:=gb221) (o:=.cells #[.int .i64 a0_0,.int .i64 a0_1,.int .i64 a0_2,.int .i64 a0_3,.slice A0_4 l0_4.length c0_4] 41 (0,0)) (by (with_reducible repeat (first|refine blk_drewN ?_ _|refine blk_drew ?_|refine blk_alloc ?_ _));exact BK221.out) hb);have n2_:=Aside0.mk (below_step (by repeat (first|(with_reducible first|exact HB.out|apply below_alloc|apply pw_below_drewN|apply below_drew1|refine below_set ?_ GE221.out)|exact HB.out)) hb);clear BK221;clear HB;have HO225:=n0_;have BK221:=n1_;have HB:=n2_;clear n0_ n1_ n2_;clear hb ho18;have hcz19_0:w17.cell? ⟨gb221,0,none⟩=some (.int .i64 a0_0):=(blk_cell BK221.out 0).trans rfl;have hcz19_1:w17.cell? ⟨gb221,1,none⟩=some (.int .i64 a0_1):=(blk_cell BK221.out 1).trans rfl;have hcz19_2:w17.cell? ⟨gb221,2,none⟩=some (.int .i64 a0_2):=(blk_cell BK221.out 2).trans rfl;have hcz19_3:w17.cell? ⟨gb221,3,none⟩=some (.int .i64 a0_3):=(blk_cell BK221.out 3).trans rfl;have hcz19_4:w17.cell? ⟨gb221,4,none⟩=some (.slice A0_4 l0_4.length c0_4):=(blk_cell BK221.out 4).trans rfl;have hfz19_0:=blk_frozen BK221.out 0;have hfz19_1:=blk_frozen BK221.out 1;have hfz19_2:=blk_frozen BK221.out 2;have hfz19_3:=blk_frozen BK221.out 3;have hfz19_4:=blk_frozen BK221.out 4)|((with_reducible refine gate_builtin (b:=.append) (xs:=#[.tmp 27,.tmp 29]) rfl ?_);at_builtin;refine Kd.R_append_rows Kd.string (w0:=w) w.heap.size rfl (.tmp 27) (.tmp 29) 33 9 (.string ⟨#[]⟩) 16 rfl Tryd.underlying33 info9 rfl (by decide) (by omega) v224 y223 l0_4 _ _ _ (fun _=>True) (fun _=>False) rfl rfl ?aO ?aR (fun _ _ h=>h) (fun _ h=>h.elim) ?aF ?aB ?aS ?aL ?_;(case aR=>repeat (first|exact (Kd.C_below HR0_4.out HB.out)|(with_reducible refine Kd.C_alloc ?_ _)|(with_reducible refine Kd.C_drewN ?_ _)|(with_reducible refine Kd.C_drew ?_)));(case aB=>exact (by repeat (first|(with_reducible first|exact HB.out|apply below_alloc|apply pw_below_drewN|apply below_drew1|refine below_set ?_ GE221.out)|exact HB.out)));(case aF=>exact (fun _ _=>trivial));(case aO=>exact (by (with_reducible repeat (first|apply Kd.R_alloc|apply Kd.R_drewN|apply Kd.R_drew));exact HO225.out));(case aS=>exact (below_size (by repeat (first|(with_reducible first|exact HB.out|apply below_alloc|apply pw_below_drewN|apply below_drew1|refine below_set ?_ GE221.out)|exact HB.out))));(case aL=>have:=LMc14.out;omega);intro v227 w20 ho hb hg hat;rw [← Ny226.out] at ho;have n0_:=Aside0.mk (blk_grown (g:=gb221) (o:=.cells #[.int .i64 a0_0,.int .i64 a0_1,.int .i64 a0_2,.int .i64 a0_3,.slice A0_4 l0_4.length c0_4] 41 (0,0)) (by (with_reducible repeat (first|refine blk_drewN ?_ _|refine blk_drew ?_|refine blk_alloc ?_ _));exact BK221.out) hg (Kd.R_ne HO225.out BK221.out (by decide)));have n1_:=Aside0.mk (hb);have n2_:=Aside0.mk (ho);clear BK221;clear HB;clear HO225;have BK221:=n0_;have HB:=n1_;have HO228:=n2_;clear n0_ n1_ n2_;clear ho hb hg hat)|((with_reducible refine gate_builtin (b:=.append) (xs:=#[.tmp 30,.tmp 32]) rfl ?_);at_builtin;refine Kd.R_append Kd.string (w0:=w) w.heap.size rfl (.tmp 30) (.tmp 32) 33 9 (.string ⟨#[]⟩) 16 rfl Tryd.underlying33 info9 rfl (by decide) (by omega) v227 y226 a1 [.string a1] (fun _=>True) (fun _=>False) rfl rfl ?aP (fun _ hk=>hk.elim) ?aF ?aO ?aB ?aS ?aL ?_;(case aP=>exact rfl);(case aB=>exact (by repeat (first|(with_reducible first|exact HB.out|apply below_alloc|apply pw_below_drewN|apply below_drew1|refine below_set ?_ GE221.out)|exact HB.out)));(case aF=>exact (fun _ _=>trivial));(case aO=>exact (by (with_reducible repeat (first|apply Kd.R_alloc|apply Kd.R_drewN|apply Kd.R_drew));exact HO228.out));(case aS=>exact (below_size (by repeat (first|(with_reducible first|exact HB.out|apply below_alloc|apply pw_below_drewN|apply below_drew1|refine below_set ?_ GE221.out)|exact HB.out))));(case aL=>have:=LMc15.out;omega);intro v230 w21 ho hb hg hat;rw [← Ny229.out] at ho;have n0_:=Aside0.mk (blk_grown (g:=gb221) (o:=.cells #[.int .i64 a0_0,.int .i64 a0_1,.int .i64 a0_2,.int .i64 a0_3,.slice A0_4 l0_4.length c0_4] 41 (0,0)) (by (with_reducible repeat (first|refine blk_drewN ?_ _|refine blk_drew ?_|refine blk_alloc ?_ _));exact BK221.out) hg (Kd.R_ne HO228.out BK221.out (by decide)));have n1_:=Aside0.mk (hb);have n2_:=Aside0.mk (ho);clear BK221;clear HB;clear HO228;have BK221:=n0_;have HB:=n1_;have HO231:=n2_;clear n0_ n1_ n2_;clear ho hb hg hat;obtain ⟨Ao22,co22,eo22⟩:=Kd.R_slice HO231.out;subst eo22)))
      (try simp only [Act.put,List.setIfInBounds_toArray,List.set_cons_zero,List.set_cons_succ])
      go_cut [51] (fun v51 wc=>∃ (kq:Nat) (x51_15:Bool),v51=.bool x51_15∧Aside0 (r06_fits.j1 kq y229 x51_15 a0_0 a0_1 a0_2 a0_3 l0_4=some r)∧Aside0 (kq≤kj3)∧Aside0 (Kd.R Kd.string 9 wc w.heap.size (fun _=>True) (.slice Ao22 y229.length co22) y229)∧Aside0 (wc.heap[gb221]?=some (.cells #[.int .i64 a0_0,.int .i64 a0_1,.int .i64 a0_2,.int .i64 a0_3,(.slice A0_4 l0_4.length c0_4)] 41 (0,0)))∧Aside0 (Below w.heap.size w wc))
      case first =>
       have H:=HC16.out
       clear HC16
       by_cases c23:(y229.length:Int) > 1
       ·rw [if_pos c23] at H
        have c23b0:decide (1<(y229.length:Int))=true:=decide_eq_true c23
        have c23b1:decide (1<y229.length)=true:=decide_eq_true (by omega)
        clear c23
        (first|rw [c23b0]|(simp only [i64_w,i32_w];rw [c23b0])|skip)
        by_cases c24:0<(a1.size:Int)
        ·rw [if_pos c24] at H
         have c24b0:decide (0<(a1.size:Int))=true:=decide_eq_true c24
         have c24b1:decide (0<a1.size)=true:=decide_eq_true (by omega)
         clear c24
         by_cases c26:(bt a1 0)=45
         ·rw [if_pos c26] at H
          have c26b0:((bt a1 0) == 45)=true:=beq_iff_eq.mpr c26
          have c26b1:((bt a1 0) != 45)=false:=bne_eq_false_iff_eq.mpr c26
          clear c26
          obtain ⟨ji27,hji27⟩:∃ j_:Int,(wrap64 ((y229.length:Int) - 2))=j_:=⟨_,rfl⟩
          replace H:(if 0≤(ji27) then (if (ji27)<(y229.length:Int) then (if 0<((rdOf ByteArray.empty y229 (ji27)).size:Int) then (r06_fits.j1 kj3 y229 ((bt (rdOf ByteArray.empty y229 (ji27)) 0) == 43) a0_0 a0_1 a0_2 a0_3 l0_4) else (none)) else (none)) else (none))=some r:=by first|(rw [hji27] at H;exact H)|(simp only [hji27] at H ⊢;exact H)
          have hji27w:(IntKind.i64.wrap ((y229.length:Int) - 2))=ji27:=(i64_w _).trans hji27
          by_cases c28:0≤(ji27)
          ·rw [if_pos c28] at H
           have c28b0:decide (0≤(ji27))=true:=decide_eq_true c28
           clear c28
           by_cases c29:(ji27)<(y229.length:Int)
           ·rw [if_pos c29] at H
            have c29b0:decide ((ji27)<(y229.length:Int))=true:=decide_eq_true c29
            clear c29
            by_cases c30:0<((rdOf ByteArray.empty y229 (ji27)).size:Int)
            ·rw [if_pos c30] at H
             have c30b0:decide (0<((rdOf ByteArray.empty y229 (ji27)).size:Int))=true:=decide_eq_true c30
             have c30b1:decide (0<(rdOf ByteArray.empty y229 (ji27)).size)=true:=decide_eq_true (by omega)
             clear c30
             have H':=Aside0.mk H
             clear H
             have p25:0≤(0:Int):=(by omega)
             have q25:0<a1.size:=(by have:(0:Int)<(a1.size:Int):=of_decide_eq_true (by first|(with_reducible assumption)|assumption);omega)
             have hx25:∀ h:0<a1.size,((a1[0]'h).toNat:Int)=bt a1 0:=bt_at a1 0
             clear p25
             have qi25:(0<(a1.size:Int))=True:=eq_true (of_decide_eq_true (by first|(with_reducible assumption)|assumption))
             replace q25:=eq_true q25
             have p232:0≤((ji27):Int):=of_decide_eq_true (by first|(with_reducible assumption)|assumption)
             have q232:(ji27)<(y229.length:Int):=of_decide_eq_true (by first|(with_reducible assumption)|assumption)
             obtain ⟨ad232,e232,hx232_0⟩:=Kd.at_string (Kd.R_reads' HO231.out).2.2 (ji27) p232 q232
             cases e232
             replace p232:=eq_true p232
             replace q232:=eq_true q232
             have p31:0≤(0:Int):=(by omega)
             have q31:0<(rdOf ByteArray.empty y229 (ji27)).size:=(by have:(0:Int)<((rdOf ByteArray.empty y229 (ji27)).size:Int):=of_decide_eq_true (by first|(with_reducible assumption)|assumption);omega)
             have hx31:∀ h:0<(rdOf ByteArray.empty y229 (ji27)).size,(((rdOf ByteArray.empty y229 (ji27))[0]'h).toNat:Int)=bt (rdOf ByteArray.empty y229 (ji27)) 0:=bt_at (rdOf ByteArray.empty y229 (ji27)) 0
             clear p31
             have qi31:(0<((rdOf ByteArray.empty y229 (ji27)).size:Int))=True:=eq_true (of_decide_eq_true (by first|(with_reducible assumption)|assumption))
             replace q31:=eq_true q31
             go_wp2
             repeat (go_quiet (fail);try go_wp2)
             go_meet
             case rel=>exact ⟨_,(((bt (rdOf ByteArray.empty y229 (ji27)) 0) == 43)),(by first|rfl|(simp;done)|(simp only [← hji27]<;>(first|rfl|simp))|(simp [*];done)),H',⟨by have:=HJ3.out;first|omega|exact Nat.le_refl _⟩,⟨by (with_reducible repeat (first|apply Kd.R_alloc|apply Kd.R_drewN|apply Kd.R_drew));exact HO231.out⟩,⟨by (with_reducible repeat (first|refine blk_drewN ?_ _|refine blk_drew ?_|refine blk_alloc ?_ _));exact BK221.out⟩,⟨by repeat (first|(with_reducible first|exact HB.out|apply below_alloc|apply pw_below_drewN|apply below_drew1|refine below_set ?_ GE221.out)|exact HB.out)⟩⟩
            ·rw [if_neg c30] at H
             exact absurd H (by simp)
           ·rw [if_neg c29] at H
            exact absurd H (by simp)
          ·rw [if_neg c28] at H
           exact absurd H (by simp)
         ·rw [if_neg c26] at H
          have c26b0:((bt a1 0) == 45)=false:=beq_eq_false_iff_ne.mpr c26
          have c26b1:((bt a1 0) != 45)=true:=bne_iff_ne.mpr c26
          have H':=Aside0.mk H
          clear H
          have p25:0≤(0:Int):=(by omega)
          have q25:0<a1.size:=(by have:(0:Int)<(a1.size:Int):=of_decide_eq_true (by first|(with_reducible assumption)|assumption);omega)
          have hx25:∀ h:0<a1.size,((a1[0]'h).toNat:Int)=bt a1 0:=bt_at a1 0
          clear p25
          have qi25:(0<(a1.size:Int))=True:=eq_true (of_decide_eq_true (by first|(with_reducible assumption)|assumption))
          replace q25:=eq_true q25
          go_wp2
          repeat (go_quiet (fail);try go_wp2)
          go_meet
          case rel=>exact ⟨_,(false),(by first|rfl|(simp;done)|(simp [*];done)),H',⟨by have:=HJ3.out;first|omega|exact Nat.le_refl _⟩,⟨by (with_reducible repeat (first|apply Kd.R_alloc|apply Kd.R_drewN|apply Kd.R_drew));exact HO231.out⟩,⟨by (with_reducible repeat (first|refine blk_drewN ?_ _|refine blk_drew ?_|refine blk_alloc ?_ _));exact BK221.out⟩,⟨by repeat (first|(with_reducible first|exact HB.out|apply below_alloc|apply pw_below_drewN|apply below_drew1|refine below_set ?_ GE221.out)|exact HB.out)⟩⟩
        ·rw [if_neg c24] at H
         exact absurd H (by simp)
       ·rw [if_neg c23] at H
        have c23b0:decide (1<(y229.length:Int))=false:=decide_eq_false c23
        have c23b1:decide (1<y229.length)=false:=decide_eq_false (by omega)
        clear c23
        (first|rw [c23b0]|(simp only [i64_w,i32_w];rw [c23b0])|skip)
        have H':=Aside0.mk H
        clear H
        go_wp2
        repeat (go_quiet (fail);try go_wp2)
        go_meet
        case rel=>exact ⟨_,(false),(by first|rfl|(simp;done)|(simp [*];done)),H',⟨by have:=HJ3.out;first|omega|exact Nat.le_refl _⟩,⟨by (with_reducible repeat (first|apply Kd.R_alloc|apply Kd.R_drewN|apply Kd.R_drew));exact HO231.out⟩,⟨by (with_reducible repeat (first|refine blk_drewN ?_ _|refine blk_drew ?_|refine blk_alloc ?_ _));exact BK221.out⟩,⟨by repeat (first|(with_reducible first|exact HB.out|apply below_alloc|apply pw_below_drewN|apply below_drew1|refine below_set ?_ GE221.out)|exact HB.out)⟩⟩
      case rest =>
       clear HC16
       try clear c1
       try clear p1
       try clear q1
       try clear hx1
       try clear qi1
       try clear c2
       try clear p2
       try clear q2
       try clear hx2
       try clear qi2
       try clear c3
       try clear p3
       try clear q3
       try clear hx3
       try clear qi3
       try clear c6
       try clear p6
       try clear c7
       try clear c7b0
       try clear c7b1
       try clear p8
       try clear q8
       try clear hx8
       try clear qi8
       try clear c9
       try clear c9b0
       try clear c9b1
       try clear p10
       try clear q10
       try clear hx10
       try clear qi10
       try clear c11
       try clear c11b0
       try clear c11b1
       try clear p12
       try clear q12
       try clear hx12
       try clear qi12
       try clear c13
       try clear c14
       try clear c15
       try clear c23
       try clear c23b0
       try clear c23b1
       try clear p23
       try clear q23
       try clear hx23
       try clear c24
       try clear c24b0
       try clear c24b1
       try clear p25
       try clear q25
       try clear hx25
       try clear qi25
       try clear c26
       try clear c26b0
       try clear c26b1
       try clear c28
       try clear c28b0
       try clear c29
       try clear c29b0
       try clear c30
       try clear c30b0
       try clear c30b1
       try clear p31
       try clear q31
       try clear hx31
       try clear qi31
       try clear hcz19_0
       try clear hcz19_1
       try clear hcz19_2
       try clear hcz19_3
       try clear hcz19_4
       try clear hfz19_0
       try clear hfz19_1
       try clear hfz19_2
       try clear hfz19_3
       try clear hfz19_4
       try clear hx232_0
       try clear p1
       try clear p10
       try clear p12
       try clear p2
       try clear p232
       try clear p25
       try clear p31
       try clear p8
       try clear q1
       try clear q10
       try clear q12
       try clear q232
       try clear q25
       try clear q31
       try clear q8
       obtain ⟨kq,x51_15,rfl,HA,HJ15,HO_6,BK221,HB⟩:=hcut
       cases kq with
       | zero=>exact absurd HA.out (by simp [r06_fits.j1])
       | succ kj15 =>
        have H:=HA.out
        clear HA
        simp only [r06_fits.j1] at H
        by_cases c32:x51_15=true
        ·subst c32
         have H1:(some false)=some r:=by rw [if_pos rfl] at H;exact H
         clear H
         have H:=H1
         clear H1
         obtain rfl:=Option.some.inj H
         go_wp2
         repeat (go_quiet (fail);try go_wp2)
         go_ret
         exact ⟨by first|rfl|(simp [errW_none,errW_some]<;>rfl)|(simp [*,errW_none,errW_some]<;>rfl),by repeat (first|(with_reducible first|exact HB.out|apply below_alloc|apply pw_below_drewN|apply below_drew1|refine below_set ?_ GE221.out)|exact HB.out)⟩
        ·replace c32:=Bool.eq_false_iff.mpr c32
         subst c32
         have H1:((r05_Many.f kj15 y229 45).bind fun t233=>(if t233≤a0_1 then ((r05_Many.f kj15 y229 43).bind fun t234=>(some (decide (t234≤a0_3)))) else (some false)))=some r:=by rw [if_neg (show ¬ (false=true) by decide)] at H;exact H
         clear H
         have H:=H1
         clear H1
         replace H:=Option.bind_eq_some_iff.mp H
         obtain ⟨t233,A330,H⟩:=H
         replace H:(if t233≤a0_1 then ((r05_Many.f kj15 y229 43).bind fun t234=>(some (decide (t234≤a0_3)))) else (some false))=some r:=H
         have A33:=Aside0.mk A330
         clear A330
         by_cases c34:t233≤a0_1
         ·rw [if_pos c34] at H
          have c34b0:decide (t233≤a0_1)=true:=decide_eq_true c34
          clear c34
          replace H:=Option.bind_eq_some_iff.mp H
          obtain ⟨t234,A350,H⟩:=H
          replace H:(some (decide (t234≤a0_3)))=some r:=H
          have A35:=Aside0.mk A350
          clear A350
          obtain rfl:=Option.some.inj H
          go_wp2_with (first|(go_at_call 36;(with_reducible refine (r05_Many.calls kj15 _ _ y229 45 t233 _ ?side1 ?side2 A33.out).mono ?_);(case side1=>repeat (first|exact (Kd.R_reads' HO_6.out).2.2|(with_reducible refine Kd.C_alloc ?_ _)|(with_reducible refine Kd.C_drewN ?_ _)|(with_reducible refine Kd.C_drew ?_)));(case side2=>exact (Kd.R_reads' HO_6.out).2.1);rintro e w' ⟨rfl,⟨nd,rfl⟩⟩;(try first|exact ⟨rfl,_,World.drewN_drewN _ _ _⟩|exact ⟨rfl,_,Eq.trans (World.drewN_drewN _ _ _) (congrArg (World.drewN _) (Nat.add_assoc _ _ _))⟩);have hcz36_0:wc.cell? ⟨gb221,0,none⟩=some (.int .i64 a0_0):=(blk_cell BK221.out 0).trans rfl;have hcz36_1:wc.cell? ⟨gb221,1,none⟩=some (.int .i64 a0_1):=(blk_cell BK221.out 1).trans rfl;have hcz36_2:wc.cell? ⟨gb221,2,none⟩=some (.int .i64 a0_2):=(blk_cell BK221.out 2).trans rfl;have hcz36_3:wc.cell? ⟨gb221,3,none⟩=some (.int .i64 a0_3):=(blk_cell BK221.out 3).trans rfl;have hcz36_4:wc.cell? ⟨gb221,4,none⟩=some (.slice A0_4 l0_4.length c0_4):=(blk_cell BK221.out 4).trans rfl;have hfz36_0:=blk_frozen BK221.out 0;have hfz36_1:=blk_frozen BK221.out 1;have hfz36_2:=blk_frozen BK221.out 2;have hfz36_3:=blk_frozen BK221.out 3;have hfz36_4:=blk_frozen BK221.out 4)|(go_at_call 36;(with_reducible refine (r05_Many.calls kj15 _ _ y229 43 t234 _ ?side1 ?side2 A35.out).mono ?_);(case side1=>repeat (first|exact (Kd.R_reads' HO_6.out).2.2|(with_reducible refine Kd.C_alloc ?_ _)|(with_reducible refine Kd.C_drewN ?_ _)|(with_reducible refine Kd.C_drew ?_)));(case side2=>exact (Kd.R_reads' HO_6.out).2.1);rintro e w' ⟨rfl,⟨nd,rfl⟩⟩;(try first|exact ⟨rfl,_,World.drewN_drewN _ _ _⟩|exact ⟨rfl,_,Eq.trans (World.drewN_drewN _ _ _) (congrArg (World.drewN _) (Nat.add_assoc _ _ _))⟩)))
          repeat (go_quiet (first|(go_at_call 36;(with_reducible refine (r05_Many.calls kj15 _ _ y229 45 t233 _ ?side1 ?side2 A33.out).mono ?_);(case side1=>repeat (first|exact (Kd.R_reads' HO_6.out).2.2|(with_reducible refine Kd.C_alloc ?_ _)|(with_reducible refine Kd.C_drewN ?_ _)|(with_reducible refine Kd.C_drew ?_)));(case side2=>exact (Kd.R_reads' HO_6.out).2.1);rintro e w' ⟨rfl,⟨nd,rfl⟩⟩;(try first|exact ⟨rfl,_,World.drewN_drewN _ _ _⟩|exact ⟨rfl,_,Eq.trans (World.drewN_drewN _ _ _) (congrArg (World.drewN _) (Nat.add_assoc _ _ _))⟩);have hcz36_0:wc.cell? ⟨gb221,0,none⟩=some (.int .i64 a0_0):=(blk_cell BK221.out 0).trans rfl;have hcz36_1:wc.cell? ⟨gb221,1,none⟩=some (.int .i64 a0_1):=(blk_cell BK221.out 1).trans rfl;have hcz36_2:wc.cell? ⟨gb221,2,none⟩=some (.int .i64 a0_2):=(blk_cell BK221.out 2).trans rfl;have hcz36_3:wc.cell? ⟨gb221,3,none⟩=some (.int .i64 a0_3):=(blk_cell BK221.out 3).trans rfl;have hcz36_4:wc.cell? ⟨gb221,4,none⟩=some (.slice A0_4 l0_4.length c0_4):=(blk_cell BK221.out 4).trans rfl;have hfz36_0:=blk_frozen BK221.out 0;have hfz36_1:=blk_frozen BK221.out 1;have hfz36_2:=blk_frozen BK221.out 2;have hfz36_3:=blk_frozen BK221.out 3;have hfz36_4:=blk_frozen BK221.out 4)|(go_at_call 36;(with_reducible refine (r05_Many.calls kj15 _ _ y229 43 t234 _ ?side1 ?side2 A35.out).mono ?_);(case side1=>repeat (first|exact (Kd.R_reads' HO_6.out).2.2|(with_reducible refine Kd.C_alloc ?_ _)|(with_reducible refine Kd.C_drewN ?_ _)|(with_reducible refine Kd.C_drew ?_)));(case side2=>exact (Kd.R_reads' HO_6.out).2.1);rintro e w' ⟨rfl,⟨nd,rfl⟩⟩;(try first|exact ⟨rfl,_,World.drewN_drewN _ _ _⟩|exact ⟨rfl,_,Eq.trans (World.drewN_drewN _ _ _) (congrArg (World.drewN _) (Nat.add_assoc _ _ _))⟩)));try go_wp2_with (first|(go_at_call 36;(with_reducible refine (r05_Many.calls kj15 _ _ y229 45 t233 _ ?side1 ?side2 A33.out).mono ?_);(case side1=>repeat (first|exact (Kd.R_reads' HO_6.out).2.2|(with_reducible refine Kd.C_alloc ?_ _)|(with_reducible refine Kd.C_drewN ?_ _)|(with_reducible refine Kd.C_drew ?_)));(case side2=>exact (Kd.R_reads' HO_6.out).2.1);rintro e w' ⟨rfl,⟨nd,rfl⟩⟩;(try first|exact ⟨rfl,_,World.drewN_drewN _ _ _⟩|exact ⟨rfl,_,Eq.trans (World.drewN_drewN _ _ _) (congrArg (World.drewN _) (Nat.add_assoc _ _ _))⟩);have hcz36_0:wc.cell? ⟨gb221,0,none⟩=some (.int .i64 a0_0):=(blk_cell BK221.out 0).trans rfl;have hcz36_1:wc.cell? ⟨gb221,1,none⟩=some (.int .i64 a0_1):=(blk_cell BK221.out 1).trans rfl;have hcz36_2:wc.cell? ⟨gb221,2,none⟩=some (.int .i64 a0_2):=(blk_cell BK221.out 2).trans rfl;have hcz36_3:wc.cell? ⟨gb221,3,none⟩=some (.int .i64 a0_3):=(blk_cell BK221.out 3).trans rfl;have hcz36_4:wc.cell? ⟨gb221,4,none⟩=some (.slice A0_4 l0_4.length c0_4):=(blk_cell BK221.out 4).trans rfl;have hfz36_0:=blk_frozen BK221.out 0;have hfz36_1:=blk_frozen BK221.out 1;have hfz36_2:=blk_frozen BK221.out 2;have hfz36_3:=blk_frozen BK221.out 3;have hfz36_4:=blk_frozen BK221.out 4)|(go_at_call 36;(with_reducible refine (r05_Many.calls kj15 _ _ y229 43 t234 _ ?side1 ?side2 A35.out).mono ?_);(case side1=>repeat (first|exact (Kd.R_reads' HO_6.out).2.2|(with_reducible refine Kd.C_alloc ?_ _)|(with_reducible refine Kd.C_drewN ?_ _)|(with_reducible refine Kd.C_drew ?_)));(case side2=>exact (Kd.R_reads' HO_6.out).2.1);rintro e w' ⟨rfl,⟨nd,rfl⟩⟩;(try first|exact ⟨rfl,_,World.drewN_drewN _ _ _⟩|exact ⟨rfl,_,Eq.trans (World.drewN_drewN _ _ _) (congrArg (World.drewN _) (Nat.add_assoc _ _ _))⟩))))
          go_ret
          exact ⟨by first|rfl|(simp [errW_none,errW_some]<;>rfl)|(simp [*,errW_none,errW_some]<;>rfl),by repeat (first|(with_reducible first|exact HB.out|apply below_alloc|apply pw_below_drewN|apply below_drew1|refine below_set ?_ GE221.out)|exact HB.out)⟩
         ·rw [if_neg c34] at H
          have c34b0:decide (t233≤a0_1)=false:=decide_eq_false c34
          clear c34
          obtain rfl:=Option.some.inj H
          go_wp2_with (first|(go_at_call 36;(with_reducible refine (r05_Many.calls kj15 _ _ y229 45 t233 _ ?side1 ?side2 A33.out).mono ?_);(case side1=>repeat (first|exact (Kd.R_reads' HO_6.out).2.2|(with_reducible refine Kd.C_alloc ?_ _)|(with_reducible refine Kd.C_drewN ?_ _)|(with_reducible refine Kd.C_drew ?_)));(case side2=>exact (Kd.R_reads' HO_6.out).2.1);rintro e w' ⟨rfl,⟨nd,rfl⟩⟩;(try first|exact ⟨rfl,_,World.drewN_drewN _ _ _⟩|exact ⟨rfl,_,Eq.trans (World.drewN_drewN _ _ _) (congrArg (World.drewN _) (Nat.add_assoc _ _ _))⟩);have hcz37_0:wc.cell? ⟨gb221,0,none⟩=some (.int .i64 a0_0):=(blk_cell BK221.out 0).trans rfl;have hcz37_1:wc.cell? ⟨gb221,1,none⟩=some (.int .i64 a0_1):=(blk_cell BK221.out 1).trans rfl;have hcz37_2:wc.cell? ⟨gb221,2,none⟩=some (.int .i64 a0_2):=(blk_cell BK221.out 2).trans rfl;have hcz37_3:wc.cell? ⟨gb221,3,none⟩=some (.int .i64 a0_3):=(blk_cell BK221.out 3).trans rfl;have hcz37_4:wc.cell? ⟨gb221,4,none⟩=some (.slice A0_4 l0_4.length c0_4):=(blk_cell BK221.out 4).trans rfl;have hfz37_0:=blk_frozen BK221.out 0;have hfz37_1:=blk_frozen BK221.out 1;have hfz37_2:=blk_frozen BK221.out 2;have hfz37_3:=blk_frozen BK221.out 3;have hfz37_4:=blk_frozen BK221.out 4))
          repeat (go_quiet (first|(go_at_call 36;(with_reducible refine (r05_Many.calls kj15 _ _ y229 45 t233 _ ?side1 ?side2 A33.out).mono ?_);(case side1=>repeat (first|exact (Kd.R_reads' HO_6.out).2.2|(with_reducible refine Kd.C_alloc ?_ _)|(with_reducible refine Kd.C_drewN ?_ _)|(with_reducible refine Kd.C_drew ?_)));(case side2=>exact (Kd.R_reads' HO_6.out).2.1);rintro e w' ⟨rfl,⟨nd,rfl⟩⟩;(try first|exact ⟨rfl,_,World.drewN_drewN _ _ _⟩|exact ⟨rfl,_,Eq.trans (World.drewN_drewN _ _ _) (congrArg (World.drewN _) (Nat.add_assoc _ _ _))⟩);have hcz37_0:wc.cell? ⟨gb221,0,none⟩=some (.int .i64 a0_0):=(blk_cell BK221.out 0).trans rfl;have hcz37_1:wc.cell? ⟨gb221,1,none⟩=some (.int .i64 a0_1):=(blk_cell BK221.out 1).trans rfl;have hcz37_2:wc.cell? ⟨gb221,2,none⟩=some (.int .i64 a0_2):=(blk_cell BK221.out 2).trans rfl;have hcz37_3:wc.cell? ⟨gb221,3,none⟩=some (.int .i64 a0_3):=(blk_cell BK221.out 3).trans rfl;have hcz37_4:wc.cell? ⟨gb221,4,none⟩=some (.slice A0_4 l0_4.length c0_4):=(blk_cell BK221.out 4).trans rfl;have hfz37_0:=blk_frozen BK221.out 0;have hfz37_1:=blk_frozen BK221.out 1;have hfz37_2:=blk_frozen BK221.out 2;have hfz37_3:=blk_frozen BK221.out 3;have hfz37_4:=blk_frozen BK221.out 4));try go_wp2_with (first|(go_at_call 36;(with_reducible refine (r05_Many.calls kj15 _ _ y229 45 t233 _ ?side1 ?side2 A33.out).mono ?_);(case side1=>repeat (first|exact (Kd.R_reads' HO_6.out).2.2|(with_reducible refine Kd.C_alloc ?_ _)|(with_reducible refine Kd.C_drewN ?_ _)|(with_reducible refine Kd.C_drew ?_)));(case side2=>exact (Kd.R_reads' HO_6.out).2.1);rintro e w' ⟨rfl,⟨nd,rfl⟩⟩;(try first|exact ⟨rfl,_,World.drewN_drewN _ _ _⟩|exact ⟨rfl,_,Eq.trans (World.drewN_drewN _ _ _) (congrArg (World.drewN _) (Nat.add_assoc _ _ _))⟩);have hcz37_0:wc.cell? ⟨gb221,0,none⟩=some (.int .i64 a0_0):=(blk_cell BK221.out 0).trans rfl;have hcz37_1:wc.cell? ⟨gb221,1,none⟩=some (.int .i64 a0_1):=(blk_cell BK221.out 1).trans rfl;have hcz37_2:wc.cell? ⟨gb221,2,none⟩=some (.int .i64 a0_2):=(blk_cell BK221.out 2).trans rfl;have hcz37_3:wc.cell? ⟨gb221,3,none⟩=some (.int .i64 a0_3):=(blk_cell BK221.out 3).trans rfl;have hcz37_4:wc.cell? ⟨gb221,4,none⟩=some (.slice A0_4 l0_4.length c0_4):=(blk_cell BK221.out 4).trans rfl;have hfz37_0:=blk_frozen BK221.out 0;have hfz37_1:=blk_frozen BK221.out 1;have hfz37_2:=blk_frozen BK221.out 2;have hfz37_3:=blk_frozen BK221.out 3;have hfz37_4:=blk_frozen BK221.out 4)))
          go_ret
          exact ⟨by first|rfl|(simp [errW_none,errW_some]<;>rfl)|(simp [*,errW_none,errW_some]<;>rfl),by repeat (first|(with_reducible first|exact HB.out|apply below_alloc|apply pw_below_drewN|apply below_drew1|refine below_set ?_ GE221.out)|exact HB.out)⟩
     ·rw [if_neg c15] at H
      exact absurd H (by simp)
    ·rw [if_neg c14] at H
     exact absurd H (by simp)

end Go.Proofs.YtamojbfmphainaaDoor.Pr
-- shrunk
