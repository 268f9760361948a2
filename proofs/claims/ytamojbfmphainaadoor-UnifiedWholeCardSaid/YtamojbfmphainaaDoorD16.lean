-- written by a program of this session's (a turned copy of the kit's printer); Lean checks it
import Derived.Test.YtamojbfmphainaaDoorK0
import Derived.Test.YtamojbfmphainaaDoorK2
set_option linter.unusedVariables false
set_option linter.unusedSimpArgs false
namespace Go.Proofs.YtamojbfmphainaaDoor.Pr
open Go.RowKit Go.Proofs.YtamojbfmphainaaDoorW.PrintWords Go.Proofs.YtamojbfmphainaaDoorW.PrintLast Go.Proofs.YtamojbfmphainaaDoorW.PrintMore
attribute [local go_sem] max2_int min2_int max_two min_two max_three min_three max_four min_four   -- for this text's walks alone

def hunk_group.l0:Nat→List ByteArray→Int→Int→List (S72)→Int→Int→Int→Int→Int→Int→List ByteArray→Option (Int × Int × Int × Int × List ByteArray)
 | 0,_,_,_,_,_,_,_,_,_,_,_=>none
 | k+1,x0,x11,x13,x45,x46,x47,x276000,x276001,x276002,x276003,x276004=>if x47<x46 then (if 0≤x47 then (if x47<(x45.length:Int) then (if 0≤x13 then (if x13≤((rd_T72 x45 x47).f0) then (if ((rd_T72 x45 x47).f0)≤(x0.length:Int) then ((hunk_signed.f k 32 ((x0.take (((rd_T72 x45 x47).f0):Int).toNat).drop (x13:Int).toNat)).bind fun t289=>(if 0≤((rd_T72 x45 x47).f0) then (if ((rd_T72 x45 x47).f0)≤(wrap64 (((rd_T72 x45 x47).f0)+((rd_T72 x45 x47).f1))) then (if (wrap64 (((rd_T72 x45 x47).f0)+((rd_T72 x45 x47).f1)))≤(x0.length:Int) then ((hunk_signed.f k 45 ((x0.take ((wrap64 (((rd_T72 x45 x47).f0)+((rd_T72 x45 x47).f1))):Int).toNat).drop (((rd_T72 x45 x47).f0):Int).toNat)).bind fun t293=>((hunk_signed.f k 43 ((rd_T72 x45 x47).f2)).bind fun t296=>((slices_Concat_string_string.f (([x276004,t289,t293,t296]:List (List ByteArray)))).bind fun t302=>(hunk_group.l0 k x0 x11 (wrap64 (((rd_T72 x45 x47).f0)+((rd_T72 x45 x47).f1))) x45 x46 (wrap64 (x47+1)) x276000 x276001 x276002 x276003 t302)))) else (none)) else (none)) else (none))) else (none)) else (none)) else (none)) else (none)) else (none)) else (if 0≤x13 then (if x13≤x11 then (if x11≤(x0.length:Int) then ((hunk_signed.f k 32 ((x0.take (x11:Int).toNat).drop (x13:Int).toNat)).bind fun t277=>(if x276004.length+t277.length<8796093022208 then ((some (x276004++t277:List ByteArray)).bind fun y280=>((hunk_count.f k y280).bind fun bt283=>(some (x276000,bt283.1,x276002,bt283.2.1,y280)))) else (none))) else (none)) else (none)) else (none))
def hunk_group.f (k:Nat) (l0:List ByteArray) (l1:List (S72)) (a2:Int) (a3:Int):Option (Int × Int × Int × Int × List ByteArray):=if 0≤(wrap64 ((l1.length:Int) - 1)) then (if (wrap64 ((l1.length:Int) - 1))<(l1.length:Int) then (if 0<(l1.length:Int) then (hunk_group.l0 k l0 (mn (l0.length:Int) (wrap64 ((wrap64 (((rd_T72 l1 (wrap64 ((l1.length:Int) - 1))).f0)+((rd_T72 l1 (wrap64 ((l1.length:Int) - 1))).f1)))+a2))) (mx 0 (wrap64 (((rd_T72 l1 0).f0) - a2))) l1 (l1.length:Int) 0 (mx 0 (wrap64 (((rd_T72 l1 0).f0) - a2))) 0 (wrap64 ((mx 0 (wrap64 (((rd_T72 l1 0).f0) - a2)))+a3)) 0 ([]:List ByteArray)) else (none)) else (none)) else (none)
def hunk_group.T9:Bool × List (List Nat × List Nat):=(true,[([],[]),([0],[0]),([],[]),([],[]),([],[]),([4],[4]),([2,3,5],[2,3,5]),([6],[6]),([],[]),([],[]),([9],[9]),([],[]),([11],[11]),([],[]),([13],[13]),([12,14],[12,14]),([8,10,15],[8,10,15]),([16,7],[16]),([],[]),([18],[18]),([19,17],[19]),([1,7,17,20],[1,7,17,20]),([21,20],[21]),([0,1,2,3,4,5,6,7,8,9,10,11,12,13,14,15,16,17,18,19,20,21,22],[]),([23,22,22,0,1,2,3,4,5,6,7,8,9,10,11,12,13,14,15,16,17,18,19,20,21,22],[22,23])])
def hunk_group.B9:List Nat:=[0,1,0,0,0,16,60,124,0,0,512,0,2048,0,8192,30720,65280,131068,0,262144,1048572,2097151,4194303,8388607,16777215]
theorem hunk_group.tab9:rtab .any (opsOf Tryd.f47 9)=hunk_group.T9:=by kernel_rfl
theorem hunk_group.bits9:waitsOk hunk_group.T9.2 hunk_group.B9=true:=by kernel_rfl
def hunk_group.T12:Bool × List (List Nat × List Nat):=(true,[([],[]),([0],[0]),([],[]),([],[]),([],[]),([2,3,4],[2,3,4]),([5],[5]),([1,6,6],[1,6]),([0,1,2,3,4,5,6,7],[]),([8,7,7,0,1,2,3,4,5,6,7],[7,8])])
def hunk_group.B12:List Nat:=[0,1,0,0,0,28,60,127,255,511]
theorem hunk_group.tab12:rtab .any (opsOf Tryd.f47 12)=hunk_group.T12:=by kernel_rfl
theorem hunk_group.bits12:waitsOk hunk_group.T12.2 hunk_group.B12=true:=by kernel_rfl
set_option maxHeartbeats 8000000 in
set_option maxRecDepth 100000 in
theorem hunk_group.calls (k:Nat) (A0:Option Addr) (c0:Nat) (l0:List ByteArray) (A1:Option Addr) (c1:Nat) (l1:List (S72)) (a2:Int) (a3:Int) (r1:Int) (r2:Int) (r3:Int) (r4:Int) (r5:List ByteArray) (w:World) (hr0:Kd.C Kd.string w A0 l0.length l0) (hc0:l0.length≤c0) (hr1:Kd.C k72 w A1 l1.length l1) (hc1:l1.length≤c1) (h:hunk_group.f k l0 l1 a2 a3=some (r1,r2,r3,r4,r5)) :
  Calls Tryd.prog 47 #[.slice A0 l0.length c0,.slice A1 l1.length c1,.int .i64 a2,.int .i64 a3] w fun e w'=>∃ v4_:Value,e=.returned (.agg #[.int .i64 r1,.int .i64 r2,.int .i64 r3,.int .i64 r4,v4_])∧Kd.R Kd.string 9 w' w.heap.size (fun _=>True) v4_ r5∧Below w.heap.size w w':=by
 have hu41:=Tryd.underlying41
 have hu72:=Tryd.underlying72
 have HR0:=Aside0.mk hr0
 have HC0:=Aside0.mk hc0
 clear hr0 hc0
 have HR1:=Aside0.mk hr1
 have HC1:=Aside0.mk hc1
 clear hr1 hc1
 have HB:=Aside0.mk (Below.refl w.heap.size w)
 have H:(if 0≤(wrap64 ((l1.length:Int) - 1)) then (if (wrap64 ((l1.length:Int) - 1))<(l1.length:Int) then (if 0<(l1.length:Int) then (hunk_group.l0 k l0 (mn (l0.length:Int) (wrap64 ((wrap64 (((rd_T72 l1 (wrap64 ((l1.length:Int) - 1))).f0)+((rd_T72 l1 (wrap64 ((l1.length:Int) - 1))).f1)))+a2))) (mx 0 (wrap64 (((rd_T72 l1 0).f0) - a2))) l1 (l1.length:Int) 0 (mx 0 (wrap64 (((rd_T72 l1 0).f0) - a2))) 0 (wrap64 ((mx 0 (wrap64 (((rd_T72 l1 0).f0) - a2)))+a3)) 0 ([]:List ByteArray)) else (none)) else (none)) else (none))=some (r1,r2,r3,r4,r5):=h
 clear h
 obtain ⟨ji5,hji5⟩:∃ j_:Int,(wrap64 ((l1.length:Int) - 1))=j_:=⟨_,rfl⟩
 replace H:(if 0≤(ji5) then (if (ji5)<(l1.length:Int) then (if 0<(l1.length:Int) then (hunk_group.l0 k l0 (mn (l0.length:Int) (wrap64 ((wrap64 (((rd_T72 l1 (ji5)).f0)+((rd_T72 l1 (ji5)).f1)))+a2))) (mx 0 (wrap64 (((rd_T72 l1 0).f0) - a2))) l1 (l1.length:Int) 0 (mx 0 (wrap64 (((rd_T72 l1 0).f0) - a2))) 0 (wrap64 ((mx 0 (wrap64 (((rd_T72 l1 0).f0) - a2)))+a3)) 0 ([]:List ByteArray)) else (none)) else (none)) else (none))=some (r1,r2,r3,r4,r5):=by first|(rw [hji5] at H;exact H)|(simp only [hji5] at H ⊢;exact H)
 have hji5w:(IntKind.i64.wrap ((l1.length:Int) - 1))=ji5:=(i64_w _).trans hji5
 by_cases c6:0≤(ji5)
 ·rw [if_pos c6] at H
  have c6b0:decide (0≤(ji5))=true:=decide_eq_true c6
  clear c6
  by_cases c7:(ji5)<(l1.length:Int)
  ·rw [if_pos c7] at H
   have c7b0:decide ((ji5)<(l1.length:Int))=true:=decide_eq_true c7
   clear c7
   by_cases c8:0<(l1.length:Int)
   ·rw [if_pos c8] at H
    have c8b0:decide (0<(l1.length:Int))=true:=decide_eq_true c8
    have c8b1:decide (0<l1.length)=true:=decide_eq_true (by omega)
    clear c8
    obtain ⟨ji9,hji9⟩:∃ j_:Int,(mx 0 (wrap64 (((rd_T72 l1 0).f0) - a2)))=j_:=⟨_,rfl⟩
    replace H:(hunk_group.l0 k l0 (mn (l0.length:Int) (wrap64 ((wrap64 (((rd_T72 l1 (ji5)).f0)+((rd_T72 l1 (ji5)).f1)))+a2))) ji9 l1 (l1.length:Int) 0 ji9 0 (wrap64 ((ji9)+a3)) 0 ([]:List ByteArray))=some (r1,r2,r3,r4,r5):=by first|(rw [hji9] at H;exact H)|(simp only [hji9] at H ⊢;exact H)
    (try (have hji9l:0≤ji9:=by (rw [← hji9];unfold mx;(repeat' split)<;>omega)))
    (try (have hji9m:0≤ji9:=by omega))
    have hji9_:(if 0<(wrap64 (((rd_T72 l1 0).f0) - a2)) then (wrap64 (((rd_T72 l1 0).f0) - a2)) else 0)=ji9:=hji9
    obtain ⟨ji10,hji10⟩:∃ j_:Int,(mn (l0.length:Int) (wrap64 ((wrap64 (((rd_T72 l1 (ji5)).f0)+((rd_T72 l1 (ji5)).f1)))+a2)))=j_:=⟨_,rfl⟩
    replace H:(hunk_group.l0 k l0 ji10 ji9 l1 (l1.length:Int) 0 ji9 0 (wrap64 ((ji9)+a3)) 0 ([]:List ByteArray))=some (r1,r2,r3,r4,r5):=by first|(rw [hji10] at H;exact H)|(simp only [hji10] at H ⊢;exact H)
    have hji10_:(if (wrap64 ((wrap64 (((rd_T72 l1 (ji5)).f0)+((rd_T72 l1 (ji5)).f1)))+a2))<(l0.length:Int) then (wrap64 ((wrap64 (((rd_T72 l1 (ji5)).f0)+((rd_T72 l1 (ji5)).f1)))+a2)) else (l0.length:Int))=ji10:=hji10
    have H':=Aside0.mk H
    clear H
    go_enter Tryd.func47,Tryd.ntmps47
    go_wp2_with (first|((with_reducible refine gate_dst (N:=8) rfl ?_);refine box_event ?hg (N:=8) ?hd (cs:=#[.int .i64 0,.int .i64 0,.int .i64 0,.int .i64 0,.slice none 0 0]) (t:=41) ?hr ?_;(case hd=>rfl);(case hg=>rfl);(case hr=>first|(go_simp;done)|(go_simp;rfl));intro gb271 hg w11 hbox hb;have n0_:=Aside0.mk (below_step (by repeat (first|(with_reducible first|exact HB.out|apply below_alloc|apply pw_below_drewN|apply below_drew1)|exact HB.out)) hb);have n1_:=Aside0.mk (hbox);have n2_:=Aside0.mk ((by rw [hg];exact (below_size (by repeat (first|(with_reducible first|exact HB.out|apply below_alloc|apply pw_below_drewN|apply below_drew1)|exact HB.out))):w.heap.size≤gb271));have n3_:=Aside0.mk ((by rw [hg];exact (below_size (by repeat (first|(with_reducible first|exact HB.out|apply below_alloc|apply pw_below_drewN|apply below_drew1)|exact HB.out))):w.heap.size≤gb271));clear HB;have HB:=n0_;have BK271:=n1_;have GW271:=n2_;have GE271:=n3_;clear n0_ n1_ n2_ n3_;clear hb hbox hg;have p272:0≤((ji5):Int):=of_decide_eq_true (by first|(with_reducible assumption)|assumption);have q272:(ji5)<(l1.length:Int):=of_decide_eq_true (by first|(with_reducible assumption)|assumption);obtain ⟨ad272,A272_2,c272_2,e272,hx272_0,hx272_1,hx272_2,hl272_2,hi272_2⟩:=at_T72 HR1.out (ji5) p272 q272;cases e272;replace hx272_0:=(HB.out.cell (World.block_lt_of_cell? w _ hx272_0)).trans hx272_0;replace hx272_1:=(HB.out.cell (World.block_lt_of_cell? w _ hx272_1)).trans hx272_1;replace hx272_2:=(HB.out.cell (World.block_lt_of_cell? w _ hx272_2)).trans hx272_2;have HR272_2:=Aside0.mk hi272_2;have HC272_2:=Aside0.mk hl272_2;clear hi272_2 hl272_2;replace p272:=eq_true p272;replace q272:=eq_true q272)|((with_reducible refine gate_dst (N:=9) rfl ?_);refine box_event ?hg (N:=9) ?hd (cs:=#[.int .i64 0,.int .i64 0,.slice none 0 0]) (t:=72) ?hr ?_;(case hd=>rfl);(case hg=>rfl);(case hr=>first|(go_simp;done)|(go_simp;rfl));intro gb273 hg w12 hbox hb;have n0_:=Aside0.mk (blk_below (g:=gb271) (o:=.cells #[.int .i64 0,.int .i64 0,.int .i64 0,.int .i64 0,.slice none 0 0] 41 (0,0)) (by (with_reducible repeat (first|refine blk_drewN ?_ _|refine blk_drew ?_|refine blk_alloc ?_ _));exact BK271.out) hb);have n1_:=Aside0.mk (below_step (by repeat (first|(with_reducible first|exact HB.out|apply below_alloc|apply pw_below_drewN|apply below_drew1|refine below_set ?_ GE271.out)|exact HB.out)) hb);have n2_:=Aside0.mk (hbox);have n3_:=Aside0.mk ((by rw [hg];exact (below_size (by repeat (first|(with_reducible first|exact HB.out|apply below_alloc|apply pw_below_drewN|apply below_drew1|refine below_set ?_ GE271.out)|exact HB.out))):w.heap.size≤gb273));have n4_:=Aside0.mk ((by rw [hg];exact (below_size (by repeat (first|(with_reducible first|exact HB.out|apply below_alloc|apply pw_below_drewN|apply below_drew1|refine below_set ?_ GE271.out)|exact HB.out))):w.heap.size≤gb273));have n5_:=Aside0.mk ((by rw [hg];exact Nat.ne_of_lt (blk_lt (g:=gb271) (o:=.cells #[.int .i64 0,.int .i64 0,.int .i64 0,.int .i64 0,.slice none 0 0] 41 (0,0)) (by (with_reducible repeat (first|refine blk_drewN ?_ _|refine blk_drew ?_|refine blk_alloc ?_ _));exact BK271.out)):gb271≠gb273));have n6_:=Aside0.mk ((by rw [hg];exact Nat.ne_of_gt (blk_lt (g:=gb271) (o:=.cells #[.int .i64 0,.int .i64 0,.int .i64 0,.int .i64 0,.slice none 0 0] 41 (0,0)) (by (with_reducible repeat (first|refine blk_drewN ?_ _|refine blk_drew ?_|refine blk_alloc ?_ _));exact BK271.out)):gb273≠gb271));clear BK271;clear HB;have BK271:=n0_;have HB:=n1_;have BK273:=n2_;have GW273:=n3_;have GE273:=n4_;have NB271_273:=n5_;have NB273_271:=n6_;clear n0_ n1_ n2_ n3_ n4_ n5_ n6_;clear hb hbox hg;have hnb13:=NB273_271.out;have hnc13:=NB271_273.out;have hcz14_0:w12.cell? ⟨gb273,0,none⟩=some (.int .i64 0):=(blk_cell BK273.out 0).trans rfl;have hcz14_1:w12.cell? ⟨gb273,1,none⟩=some (.int .i64 0):=(blk_cell BK273.out 1).trans rfl;have hcz14_2:w12.cell? ⟨gb273,2,none⟩=some (.slice none 0 0):=(blk_cell BK273.out 2).trans rfl;have hfz14_0:=blk_frozen BK273.out 0;have hfz14_1:=blk_frozen BK273.out 1;have hfz14_2:=blk_frozen BK273.out 2;have p274:0≤(0:Int):=(by omega);have q274:0<(l1.length:Int):=of_decide_eq_true (by first|(with_reducible assumption)|assumption);obtain ⟨ad274,A274_2,c274_2,e274,hx274_0,hx274_1,hx274_2,hl274_2,hi274_2⟩:=at_T72 HR1.out 0 p274 q274;obtain rfl:ad272=ad274:=(by injection e274);have qi274:(0<l1.length)=True:=eq_true (by omega);(try rw [show ((0:Int)).toNat=0 from rfl] at hx274_0);(try rw [show 0 * 3=0 from rfl] at hx274_0);(try rw [Addr.add_zero'] at hx274_0);(try rw [show ((0:Int)).toNat=0 from rfl] at hx274_1);(try rw [show 0 * 3=0 from rfl] at hx274_1);(try rw [Addr.add_zero'] at hx274_1);(try rw [show ((0:Int)).toNat=0 from rfl] at hx274_2);(try rw [show 0 * 3=0 from rfl] at hx274_2);(try rw [Addr.add_zero'] at hx274_2);have hn274_0:ad272.block≠gb273:=Nat.ne_of_lt (Nat.lt_of_lt_of_le (by have:=World.block_lt_of_cell? _ _ hx274_0;first|rwa [add_block] at this|exact this) GW273.out);have hn274_1:ad272.block≠gb273:=Nat.ne_of_lt (Nat.lt_of_lt_of_le (by have:=World.block_lt_of_cell? _ _ hx274_0;first|rwa [add_block] at this|exact this) GW273.out);have hn274_2:ad272.block≠gb273:=Nat.ne_of_lt (Nat.lt_of_lt_of_le (by have:=World.block_lt_of_cell? _ _ hx274_0;first|rwa [add_block] at this|exact this) GW273.out);replace hx274_0:=(HB.out.cell (World.block_lt_of_cell? w _ hx274_0)).trans hx274_0;replace hx274_1:=(HB.out.cell (World.block_lt_of_cell? w _ hx274_1)).trans hx274_1;replace hx274_2:=(HB.out.cell (World.block_lt_of_cell? w _ hx274_2)).trans hx274_2;have HR274_2:=Aside0.mk hi274_2;have HC274_2:=Aside0.mk hl274_2;clear hi274_2 hl274_2;replace hx274_0:=(cell_far (p:=⟨gb273,0,none⟩) (by first|(rw [add_block];exact hn274_0)|(show (Addr.add _ _).block≠_;rw [add_block];exact hn274_0)|exact hn274_0) (.int .i64 ((rd_T72 l1 (ji5)).f0))).trans hx274_0;replace hx274_1:=(cell_far (p:=⟨gb273,0,none⟩) (by first|(rw [add_block];exact hn274_0)|(show (Addr.add _ _).block≠_;rw [add_block];exact hn274_0)|exact hn274_0) (.int .i64 ((rd_T72 l1 (ji5)).f0))).trans hx274_1;replace hx274_2:=(cell_far (p:=⟨gb273,0,none⟩) (by first|(rw [add_block];exact hn274_0)|(show (Addr.add _ _).block≠_;rw [add_block];exact hn274_0)|exact hn274_0) (.int .i64 ((rd_T72 l1 (ji5)).f0))).trans hx274_2;replace hx274_0:=(cell_far (p:=⟨gb273,1,none⟩) (by first|(rw [add_block];exact hn274_1)|(show (Addr.add _ _).block≠_;rw [add_block];exact hn274_1)|exact hn274_1) (.int .i64 ((rd_T72 l1 (ji5)).f1))).trans hx274_0;replace hx274_1:=(cell_far (p:=⟨gb273,1,none⟩) (by first|(rw [add_block];exact hn274_1)|(show (Addr.add _ _).block≠_;rw [add_block];exact hn274_1)|exact hn274_1) (.int .i64 ((rd_T72 l1 (ji5)).f1))).trans hx274_1;replace hx274_2:=(cell_far (p:=⟨gb273,1,none⟩) (by first|(rw [add_block];exact hn274_1)|(show (Addr.add _ _).block≠_;rw [add_block];exact hn274_1)|exact hn274_1) (.int .i64 ((rd_T72 l1 (ji5)).f1))).trans hx274_2;replace hx274_0:=(cell_far (p:=⟨gb273,2,none⟩) (by first|(rw [add_block];exact hn274_2)|(show (Addr.add _ _).block≠_;rw [add_block];exact hn274_2)|exact hn274_2) (.slice A272_2 ((rd_T72 l1 (ji5)).f2).length c272_2)).trans hx274_0;replace hx274_1:=(cell_far (p:=⟨gb273,2,none⟩) (by first|(rw [add_block];exact hn274_2)|(show (Addr.add _ _).block≠_;rw [add_block];exact hn274_2)|exact hn274_2) (.slice A272_2 ((rd_T72 l1 (ji5)).f2).length c272_2)).trans hx274_1;replace hx274_2:=(cell_far (p:=⟨gb273,2,none⟩) (by first|(rw [add_block];exact hn274_2)|(show (Addr.add _ _).block≠_;rw [add_block];exact hn274_2)|exact hn274_2) (.slice A272_2 ((rd_T72 l1 (ji5)).f2).length c272_2)).trans hx274_2;clear hn274_0;clear hn274_1;clear hn274_2;replace p274:=eq_true p274;replace q274:=eq_true q274)|((with_reducible refine gate_dst (N:=12) rfl ?_);refine box_event ?hg (N:=12) ?hd (cs:=#[.int .i64 0,.int .i64 0,.int .i64 0,.int .i64 0,.slice none 0 0]) (t:=41) ?hr ?_;(case hd=>rfl);(case hg=>rfl);(case hr=>first|(go_simp;done)|(go_simp;rfl));intro gb275 hg w15 hbox hb;have n0_:=Aside0.mk (blk_below (g:=gb271) (o:=.cells #[.int .i64 0,.int .i64 0,.int .i64 0,.int .i64 0,.slice none 0 0] 41 (0,0)) (by (with_reducible repeat (first|refine blk_drewN ?_ _|refine blk_drew ?_|refine blk_alloc ?_ _));refine blk_far ?_ NB271_273.out _;(with_reducible repeat (first|refine blk_drewN ?_ _|refine blk_drew ?_|refine blk_alloc ?_ _));refine blk_far ?_ NB271_273.out _;(with_reducible repeat (first|refine blk_drewN ?_ _|refine blk_drew ?_|refine blk_alloc ?_ _));refine blk_far ?_ NB271_273.out _;(with_reducible repeat (first|refine blk_drewN ?_ _|refine blk_drew ?_|refine blk_alloc ?_ _));exact BK271.out) hb);have n1_:=Aside0.mk (blk_below (g:=gb273) (o:=.cells #[.int .i64 ((rd_T72 l1 (ji5)).f0),.int .i64 ((rd_T72 l1 (ji5)).f1),.slice A272_2 ((rd_T72 l1 (ji5)).f2).length c272_2] 72 (0,0)) (by (with_reducible repeat (first|refine blk_drewN ?_ _|refine blk_drew ?_|refine blk_alloc ?_ _));refine blk_put (cs:=#[.int .i64 ((rd_T72 l1 (ji5)).f0),.int .i64 ((rd_T72 l1 (ji5)).f1),.slice none 0 0]) ?_ 2 _ rfl;(with_reducible repeat (first|refine blk_drewN ?_ _|refine blk_drew ?_|refine blk_alloc ?_ _));refine blk_put (cs:=#[.int .i64 ((rd_T72 l1 (ji5)).f0),.int .i64 0,.slice none 0 0]) ?_ 1 _ rfl;(with_reducible repeat (first|refine blk_drewN ?_ _|refine blk_drew ?_|refine blk_alloc ?_ _));refine blk_put (cs:=#[.int .i64 0,.int .i64 0,.slice none 0 0]) ?_ 0 _ rfl;(with_reducible repeat (first|refine blk_drewN ?_ _|refine blk_drew ?_|refine blk_alloc ?_ _));exact BK273.out) hb);have n2_:=Aside0.mk (below_step (by repeat (first|(with_reducible first|exact HB.out|apply below_alloc|apply pw_below_drewN|apply below_drew1|refine below_set ?_ GE271.out|refine below_set ?_ GE273.out)|exact HB.out)) hb);have n3_:=Aside0.mk (hbox);have n4_:=Aside0.mk ((by rw [hg];exact (below_size (by repeat (first|(with_reducible first|exact HB.out|apply below_alloc|apply pw_below_drewN|apply below_drew1|refine below_set ?_ GE271.out|refine below_set ?_ GE273.out)|exact HB.out))):w.heap.size≤gb275));have n5_:=Aside0.mk ((by rw [hg];exact (below_size (by repeat (first|(with_reducible first|exact HB.out|apply below_alloc|apply pw_below_drewN|apply below_drew1|refine below_set ?_ GE271.out|refine below_set ?_ GE273.out)|exact HB.out))):w.heap.size≤gb275));have n6_:=Aside0.mk ((by rw [hg];exact Nat.ne_of_lt (blk_lt (g:=gb271) (o:=.cells #[.int .i64 0,.int .i64 0,.int .i64 0,.int .i64 0,.slice none 0 0] 41 (0,0)) (by (with_reducible repeat (first|refine blk_drewN ?_ _|refine blk_drew ?_|refine blk_alloc ?_ _));refine blk_far ?_ NB271_273.out _;(with_reducible repeat (first|refine blk_drewN ?_ _|refine blk_drew ?_|refine blk_alloc ?_ _));refine blk_far ?_ NB271_273.out _;(with_reducible repeat (first|refine blk_drewN ?_ _|refine blk_drew ?_|refine blk_alloc ?_ _));refine blk_far ?_ NB271_273.out _;(with_reducible repeat (first|refine blk_drewN ?_ _|refine blk_drew ?_|refine blk_alloc ?_ _));exact BK271.out)):gb271≠gb275));have n7_:=Aside0.mk ((by rw [hg];exact Nat.ne_of_gt (blk_lt (g:=gb271) (o:=.cells #[.int .i64 0,.int .i64 0,.int .i64 0,.int .i64 0,.slice none 0 0] 41 (0,0)) (by (with_reducible repeat (first|refine blk_drewN ?_ _|refine blk_drew ?_|refine blk_alloc ?_ _));refine blk_far ?_ NB271_273.out _;(with_reducible repeat (first|refine blk_drewN ?_ _|refine blk_drew ?_|refine blk_alloc ?_ _));refine blk_far ?_ NB271_273.out _;(with_reducible repeat (first|refine blk_drewN ?_ _|refine blk_drew ?_|refine blk_alloc ?_ _));refine blk_far ?_ NB271_273.out _;(with_reducible repeat (first|refine blk_drewN ?_ _|refine blk_drew ?_|refine blk_alloc ?_ _));exact BK271.out)):gb275≠gb271));have n8_:=Aside0.mk ((by rw [hg];exact Nat.ne_of_lt (blk_lt (g:=gb273) (o:=.cells #[.int .i64 ((rd_T72 l1 (ji5)).f0),.int .i64 ((rd_T72 l1 (ji5)).f1),.slice A272_2 ((rd_T72 l1 (ji5)).f2).length c272_2] 72 (0,0)) (by (with_reducible repeat (first|refine blk_drewN ?_ _|refine blk_drew ?_|refine blk_alloc ?_ _));refine blk_put (cs:=#[.int .i64 ((rd_T72 l1 (ji5)).f0),.int .i64 ((rd_T72 l1 (ji5)).f1),.slice none 0 0]) ?_ 2 _ rfl;(with_reducible repeat (first|refine blk_drewN ?_ _|refine blk_drew ?_|refine blk_alloc ?_ _));refine blk_put (cs:=#[.int .i64 ((rd_T72 l1 (ji5)).f0),.int .i64 0,.slice none 0 0]) ?_ 1 _ rfl;(with_reducible repeat (first|refine blk_drewN ?_ _|refine blk_drew ?_|refine blk_alloc ?_ _));refine blk_put (cs:=#[.int .i64 0,.int .i64 0,.slice none 0 0]) ?_ 0 _ rfl;(with_reducible repeat (first|refine blk_drewN ?_ _|refine blk_drew ?_|refine blk_alloc ?_ _));exact BK273.out)):gb273≠gb275));have n9_:=Aside0.mk ((by rw [hg];exact Nat.ne_of_gt (blk_lt (g:=gb273) (o:=.cells #[.int .i64 ((rd_T72 l1 (ji5)).f0),.int .i64 ((rd_T72 l1 (ji5)).f1),.slice A272_2 ((rd_T72 l1 (ji5)).f2).length c272_2] 72 (0,0)) (by (with_reducible repeat (first|refine blk_drewN ?_ _|refine blk_drew ?_|refine blk_alloc ?_ _));refine blk_put (cs:=#[.int .i64 ((rd_T72 l1 (ji5)).f0),.int .i64 ((rd_T72 l1 (ji5)).f1),.slice none 0 0]) ?_ 2 _ rfl;(with_reducible repeat (first|refine blk_drewN ?_ _|refine blk_drew ?_|refine blk_alloc ?_ _));refine blk_put (cs:=#[.int .i64 ((rd_T72 l1 (ji5)).f0),.int .i64 0,.slice none 0 0]) ?_ 1 _ rfl;(with_reducible repeat (first|refine blk_drewN ?_ _|refine blk_drew ?_|refine blk_alloc ?_ _));refine blk_put (cs:=#[.int .i64 0,.int .i64 0,.slice none 0 0]) ?_ 0 _ rfl;(with_reducible repeat (first|refine blk_drewN ?_ _|refine blk_drew ?_|refine blk_alloc ?_ _));exact BK273.out)):gb275≠gb273));clear BK271;clear BK273;clear HB;have BK271:=n0_;have BK273:=n1_;have HB:=n2_;have BK275:=n3_;have GW275:=n4_;have GE275:=n5_;have NB271_275:=n6_;have NB275_271:=n7_;have NB273_275:=n8_;have NB275_273:=n9_;clear n0_ n1_ n2_ n3_ n4_ n5_ n6_ n7_ n8_ n9_;clear hb hbox hg;have hnb16:=NB275_271.out;have hnc16:=NB271_275.out;have hnb17:=NB275_273.out;have hnc17:=NB273_275.out;have hcz18_0:w15.cell? ⟨gb275,0,none⟩=some (.int .i64 0):=(blk_cell BK275.out 0).trans rfl;have hcz18_1:w15.cell? ⟨gb275,1,none⟩=some (.int .i64 0):=(blk_cell BK275.out 1).trans rfl;have hcz18_2:w15.cell? ⟨gb275,2,none⟩=some (.int .i64 0):=(blk_cell BK275.out 2).trans rfl;have hcz18_3:w15.cell? ⟨gb275,3,none⟩=some (.int .i64 0):=(blk_cell BK275.out 3).trans rfl;have hcz18_4:w15.cell? ⟨gb275,4,none⟩=some (.slice none 0 0):=(blk_cell BK275.out 4).trans rfl;have hfz18_0:=blk_frozen BK275.out 0;have hfz18_1:=blk_frozen BK275.out 1;have hfz18_2:=blk_frozen BK275.out 2;have hfz18_3:=blk_frozen BK275.out 3;have hfz18_4:=blk_frozen BK275.out 4))
    go_loopg [13,47] k (fun kq v13 v47 w'=>∃ (x13_1:Int) (x47_1:Int) (x276004_1:List ByteArray) (u276004:Value),v13=.int .i64 x13_1∧v47=.int .i64 x47_1∧Aside0 (hunk_group.l0 kq l0 ji10 x13_1 l1 (l1.length:Int) x47_1 ji9 0 (wrap64 ((ji9)+a3)) 0 x276004_1=some (r1,r2,r3,r4,r5))∧Aside0 (kq≤k)∧Aside0 (Kd.R Kd.string 9 w' w.heap.size (fun _=>True) u276004 x276004_1)∧Aside0 (w'.heap[gb271]?=some (.cells #[.int .i64 0,.int .i64 0,.int .i64 0,.int .i64 0,(.slice none 0 0)] 41 (0,0)))∧Aside0 (w'.heap[gb273]?=some (.cells #[.int .i64 ((rd_T72 l1 (ji5)).f0),.int .i64 ((rd_T72 l1 (ji5)).f1),(.slice A272_2 ((rd_T72 l1 (ji5)).f2).length c272_2)] 72 (0,0)))∧Aside0 (w'.heap[gb275]?=some (.cells #[.int .i64 ji9,.int .i64 0,.int .i64 (wrap64 ((ji9)+a3)),.int .i64 0,u276004] 41 (0,0)))∧Aside0 (Below w.heap.size w w'))
    case atStart=>exact ⟨(ji9),(0),(([]:List ByteArray)),(.slice none 0 0),(by first|rfl|(simp;done)|(simp only [← hji9]<;>(first|rfl|simp))|(simp [*];done)),(by first|rfl|(simp;done)|(simp [*];done)),H',⟨Nat.le_refl _⟩,⟨by first|exact Kd.R_nil _ _ _ _ _|exact Kd.N_nil _ _ _ _ _|exact Kd.V_nil _ _ _ _ _|exact Kd.Q_nil _ _ _ _ _|exact Kd.S_nil _ _ _ _ _⟩,⟨by (with_reducible repeat (first|refine blk_drewN ?_ _|refine blk_drew ?_|refine blk_alloc ?_ _));refine blk_far ?_ NB271_275.out _;(with_reducible repeat (first|refine blk_drewN ?_ _|refine blk_drew ?_|refine blk_alloc ?_ _));refine blk_far ?_ NB271_275.out _;(with_reducible repeat (first|refine blk_drewN ?_ _|refine blk_drew ?_|refine blk_alloc ?_ _));refine blk_far ?_ NB271_275.out _;(with_reducible repeat (first|refine blk_drewN ?_ _|refine blk_drew ?_|refine blk_alloc ?_ _));refine blk_far ?_ NB271_275.out _;(with_reducible repeat (first|refine blk_drewN ?_ _|refine blk_drew ?_|refine blk_alloc ?_ _));refine blk_far ?_ NB271_275.out _;(with_reducible repeat (first|refine blk_drewN ?_ _|refine blk_drew ?_|refine blk_alloc ?_ _));exact BK271.out⟩,⟨by (with_reducible repeat (first|refine blk_drewN ?_ _|refine blk_drew ?_|refine blk_alloc ?_ _));refine blk_far ?_ NB273_275.out _;(with_reducible repeat (first|refine blk_drewN ?_ _|refine blk_drew ?_|refine blk_alloc ?_ _));refine blk_far ?_ NB273_275.out _;(with_reducible repeat (first|refine blk_drewN ?_ _|refine blk_drew ?_|refine blk_alloc ?_ _));refine blk_far ?_ NB273_275.out _;(with_reducible repeat (first|refine blk_drewN ?_ _|refine blk_drew ?_|refine blk_alloc ?_ _));refine blk_far ?_ NB273_275.out _;(with_reducible repeat (first|refine blk_drewN ?_ _|refine blk_drew ?_|refine blk_alloc ?_ _));refine blk_far ?_ NB273_275.out _;(with_reducible repeat (first|refine blk_drewN ?_ _|refine blk_drew ?_|refine blk_alloc ?_ _));exact BK273.out⟩,⟨by (with_reducible repeat (first|refine blk_drewN ?_ _|refine blk_drew ?_|refine blk_alloc ?_ _));refine blk_put (cs:=#[.int .i64 ji9,.int .i64 0,.int .i64 (wrap64 ((ji9)+a3)),.int .i64 0,.slice none 0 0]) ?_ 4 _ rfl;(with_reducible repeat (first|refine blk_drewN ?_ _|refine blk_drew ?_|refine blk_alloc ?_ _));refine blk_put (cs:=#[.int .i64 ji9,.int .i64 0,.int .i64 (wrap64 ((ji9)+a3)),.int .i64 0,.slice none 0 0]) ?_ 3 _ rfl;(with_reducible repeat (first|refine blk_drewN ?_ _|refine blk_drew ?_|refine blk_alloc ?_ _));refine blk_put (cs:=#[.int .i64 ji9,.int .i64 0,.int .i64 0,.int .i64 0,.slice none 0 0]) ?_ 2 _ rfl;(with_reducible repeat (first|refine blk_drewN ?_ _|refine blk_drew ?_|refine blk_alloc ?_ _));refine blk_put (cs:=#[.int .i64 ji9,.int .i64 0,.int .i64 0,.int .i64 0,.slice none 0 0]) ?_ 1 _ rfl;(with_reducible repeat (first|refine blk_drewN ?_ _|refine blk_drew ?_|refine blk_alloc ?_ _));refine blk_put (cs:=#[.int .i64 0,.int .i64 0,.int .i64 0,.int .i64 0,.slice none 0 0]) ?_ 0 _ rfl;(with_reducible repeat (first|refine blk_drewN ?_ _|refine blk_drew ?_|refine blk_alloc ?_ _));exact BK275.out⟩,⟨by repeat (first|(with_reducible first|exact HB.out|apply below_alloc|apply pw_below_drewN|apply below_drew1|refine below_set ?_ GE271.out|refine below_set ?_ GE273.out|refine below_set ?_ GE275.out)|exact HB.out)⟩⟩
    case round =>
     clear H'
     try clear c1
     try clear c2
     try clear p2
     try clear q2
     try clear hx2
     try clear qi2
     try clear c4
     try clear c6
     try clear c6b0
     try clear p6
     try clear c7
     try clear c7b0
     try clear c8
     try clear c8b0
     try clear c8b1
     try clear c13
     try clear c16
     try clear c17
     try clear hcz14_0
     try clear hcz14_1
     try clear hcz14_2
     try clear hcz18_0
     try clear hcz18_1
     try clear hcz18_2
     try clear hcz18_3
     try clear hcz18_4
     try clear hfz14_0
     try clear hfz14_1
     try clear hfz14_2
     try clear hfz18_0
     try clear hfz18_1
     try clear hfz18_2
     try clear hfz18_3
     try clear hfz18_4
     try clear hx272_0
     try clear hx272_1
     try clear hx272_2
     try clear hx274_0
     try clear hx274_1
     try clear hx274_2
     try clear p272
     try clear p274
     try clear q272
     try clear q274
     obtain ⟨x13_1,x47_1,x276004_1,u276004,rfl,rfl,HA,HK1,HO_276004,BK271,BK273,BK275,HB⟩:=hrel
     cases gk with
     | zero=>exact absurd HA.out (by simp [hunk_group.l0])
     | succ k1 =>
      have H:=HA.out
      clear HA
      simp only [hunk_group.l0] at H
      by_cases c19:x47_1<(l1.length:Int)
      ·rw [if_pos c19] at H
       have c19b0:decide (x47_1<(l1.length:Int))=true:=decide_eq_true c19
       clear c19
       by_cases c20:0≤x47_1
       ·rw [if_pos c20] at H
        have c20b0:decide (0≤x47_1)=true:=decide_eq_true c20
        clear c20
        by_cases c21:x47_1<(l1.length:Int)
        ·rw [if_pos c21] at H
         have c21b0:decide (x47_1<(l1.length:Int))=true:=decide_eq_true c21
         clear c21
         by_cases c22:0≤x13_1
         ·rw [if_pos c22] at H
          have c22b0:=eq_true c22
          have c22b1:decide (0≤x13_1)=true:=decide_eq_true c22
          clear c22
          by_cases c23:x13_1≤((rd_T72 l1 x47_1).f0)
          ·rw [if_pos c23] at H
           have c23b0:=eq_true c23
           have c23b1:decide (x13_1≤((rd_T72 l1 x47_1).f0))=true:=decide_eq_true c23
           clear c23
           by_cases c24:((rd_T72 l1 x47_1).f0)≤(l0.length:Int)
           ·rw [if_pos c24] at H
            have c24b0:=eq_true c24
            have c24b1:decide (((rd_T72 l1 x47_1).f0)≤(l0.length:Int))=true:=decide_eq_true c24
            clear c24
            replace H:=Option.bind_eq_some_iff.mp H
            obtain ⟨t289,A250,H⟩:=H
            replace H:(if 0≤((rd_T72 l1 x47_1).f0) then (if ((rd_T72 l1 x47_1).f0)≤(wrap64 (((rd_T72 l1 x47_1).f0)+((rd_T72 l1 x47_1).f1))) then (if (wrap64 (((rd_T72 l1 x47_1).f0)+((rd_T72 l1 x47_1).f1)))≤(l0.length:Int) then ((hunk_signed.f k1 45 ((l0.take ((wrap64 (((rd_T72 l1 x47_1).f0)+((rd_T72 l1 x47_1).f1))):Int).toNat).drop (((rd_T72 l1 x47_1).f0):Int).toNat)).bind fun t293=>((hunk_signed.f k1 43 ((rd_T72 l1 x47_1).f2)).bind fun t296=>((slices_Concat_string_string.f (([x276004_1,t289,t293,t296]:List (List ByteArray)))).bind fun t302=>(hunk_group.l0 k1 l0 ji10 (wrap64 (((rd_T72 l1 x47_1).f0)+((rd_T72 l1 x47_1).f1))) l1 (l1.length:Int) (wrap64 (x47_1+1)) ji9 0 (wrap64 ((ji9)+a3)) 0 t302)))) else (none)) else (none)) else (none))=some (r1,r2,r3,r4,r5):=H
            have A25:=Aside0.mk A250
            clear A250
            by_cases c26:0≤((rd_T72 l1 x47_1).f0)
            ·rw [if_pos c26] at H
             have c26b0:=eq_true c26
             have c26b1:decide (0≤((rd_T72 l1 x47_1).f0))=true:=decide_eq_true c26
             clear c26
             by_cases c27:((rd_T72 l1 x47_1).f0)≤(wrap64 (((rd_T72 l1 x47_1).f0)+((rd_T72 l1 x47_1).f1)))
             ·rw [if_pos c27] at H
              have c27b0:=eq_true c27
              have c27b1:decide (((rd_T72 l1 x47_1).f0)≤(wrap64 (((rd_T72 l1 x47_1).f0)+((rd_T72 l1 x47_1).f1))))=true:=decide_eq_true c27
              by_cases c28:(wrap64 (((rd_T72 l1 x47_1).f0)+((rd_T72 l1 x47_1).f1)))≤(l0.length:Int)
              ·rw [if_pos c28] at H
               have c28b0:=eq_true c28
               have c28b1:decide ((wrap64 (((rd_T72 l1 x47_1).f0)+((rd_T72 l1 x47_1).f1)))≤(l0.length:Int))=true:=decide_eq_true c28
               replace H:=Option.bind_eq_some_iff.mp H
               obtain ⟨t293,A290,H⟩:=H
               replace H:((hunk_signed.f k1 43 ((rd_T72 l1 x47_1).f2)).bind fun t296=>((slices_Concat_string_string.f (([x276004_1,t289,t293,t296]:List (List ByteArray)))).bind fun t302=>(hunk_group.l0 k1 l0 ji10 (wrap64 (((rd_T72 l1 x47_1).f0)+((rd_T72 l1 x47_1).f1))) l1 (l1.length:Int) (wrap64 (x47_1+1)) ji9 0 (wrap64 ((ji9)+a3)) 0 t302)))=some (r1,r2,r3,r4,r5):=H
               have A29:=Aside0.mk A290
               clear A290
               replace H:=Option.bind_eq_some_iff.mp H
               obtain ⟨t296,A300,H⟩:=H
               replace H:((slices_Concat_string_string.f (([x276004_1,t289,t293,t296]:List (List ByteArray)))).bind fun t302=>(hunk_group.l0 k1 l0 ji10 (wrap64 (((rd_T72 l1 x47_1).f0)+((rd_T72 l1 x47_1).f1))) l1 (l1.length:Int) (wrap64 (x47_1+1)) ji9 0 (wrap64 ((ji9)+a3)) 0 t302))=some (r1,r2,r3,r4,r5):=H
               have A30:=Aside0.mk A300
               clear A300
               obtain ⟨y299,hy299⟩:∃ y_:List (List ByteArray),y_=(([x276004_1,t289,t293,t296]:List (List ByteArray))):=⟨_,rfl⟩
               replace H:((slices_Concat_string_string.f y299).bind fun t302=>(hunk_group.l0 k1 l0 ji10 (wrap64 (((rd_T72 l1 x47_1).f0)+((rd_T72 l1 x47_1).f1))) l1 (l1.length:Int) (wrap64 (x47_1+1)) ji9 0 (wrap64 ((ji9)+a3)) 0 t302))=some (r1,r2,r3,r4,r5):=by first|(rw [hy299];with_reducible exact H)|(have H2_:=(Option.bind_some _ _).symm.trans H;rw [hy299];with_reducible exact H2_)|(have H2_:=(Option.bind_some _ _).symm.trans H;with_reducible exact H2_)|with_reducible exact H|(rw [hy299];exact H)|exact H
               have Ny299:=Aside0.mk hy299
               clear hy299
               replace H:=Option.bind_eq_some_iff.mp H
               obtain ⟨t302,A310,H⟩:=H
               replace H:(hunk_group.l0 k1 l0 ji10 (wrap64 (((rd_T72 l1 x47_1).f0)+((rd_T72 l1 x47_1).f1))) l1 (l1.length:Int) (wrap64 (x47_1+1)) ji9 0 (wrap64 ((ji9)+a3)) 0 t302)=some (r1,r2,r3,r4,r5):=H
               have A31:=Aside0.mk A310
               clear A310
               have H':=Aside0.mk H
               clear H
               have p286:0≤(x47_1:Int):=of_decide_eq_true (by first|(with_reducible assumption)|assumption)
               have q286:x47_1<(l1.length:Int):=of_decide_eq_true (by first|(with_reducible assumption)|assumption)
               obtain ⟨ad286,A286_2,c286_2,e286,hx286_0,hx286_1,hx286_2,hl286_2,hi286_2⟩:=at_T72 HR1.out x47_1 p286 q286
               obtain rfl:ad272=ad286:=(by injection e286)
               replace hx286_0:=(HB.out.cell (World.block_lt_of_cell? w _ hx286_0)).trans hx286_0
               replace hx286_1:=(HB.out.cell (World.block_lt_of_cell? w _ hx286_1)).trans hx286_1
               replace hx286_2:=(HB.out.cell (World.block_lt_of_cell? w _ hx286_2)).trans hx286_2
               have HR286_2:=Aside0.mk hi286_2
               have HC286_2:=Aside0.mk hl286_2
               clear hi286_2 hl286_2
               replace p286:=eq_true p286
               replace q286:=eq_true q286
               try go_wp2_with (first|((with_reducible refine gate_dst (N:=15) rfl ?_);refine box_event ?hg (N:=15) ?hd (cs:=#[.int .i64 0,.int .i64 0,.slice none 0 0]) (t:=72) ?hr ?_;(case hd=>rfl);(case hg=>rfl);(case hr=>first|(go_simp;done)|(go_simp;rfl));intro gb287 hg w32 hbox hb;have n0_:=Aside0.mk (Kd.R_below (by (with_reducible repeat (first|apply Kd.R_alloc|apply Kd.R_drewN|apply Kd.R_drew));exact HO_276004.out) hb);have n1_:=Aside0.mk (blk_below (g:=gb271) (o:=.cells #[.int .i64 0,.int .i64 0,.int .i64 0,.int .i64 0,.slice none 0 0] 41 (0,0)) (by (with_reducible repeat (first|refine blk_drewN ?_ _|refine blk_drew ?_|refine blk_alloc ?_ _));exact BK271.out) hb);have n2_:=Aside0.mk (blk_below (g:=gb273) (o:=.cells #[.int .i64 ((rd_T72 l1 (ji5)).f0),.int .i64 ((rd_T72 l1 (ji5)).f1),.slice A272_2 ((rd_T72 l1 ji5).f2).length c272_2] 72 (0,0)) (by (with_reducible repeat (first|refine blk_drewN ?_ _|refine blk_drew ?_|refine blk_alloc ?_ _));exact BK273.out) hb);have n3_:=Aside0.mk (blk_below (g:=gb275) (o:=.cells #[.int .i64 ji9,.int .i64 0,.int .i64 (wrap64 ((ji9)+a3)),.int .i64 0,u276004] 41 (0,0)) (by (with_reducible repeat (first|refine blk_drewN ?_ _|refine blk_drew ?_|refine blk_alloc ?_ _));exact BK275.out) hb);have n4_:=Aside0.mk (below_step (by repeat (first|(with_reducible first|exact HB.out|apply below_alloc|apply pw_below_drewN|apply below_drew1|refine below_set ?_ GE271.out|refine below_set ?_ GE273.out|refine below_set ?_ GE275.out)|exact HB.out)) hb);have n5_:=Aside0.mk (hbox);have n6_:=Aside0.mk ((by rw [hg];exact (below_size (by repeat (first|(with_reducible first|exact HB.out|apply below_alloc|apply pw_below_drewN|apply below_drew1|refine below_set ?_ GE271.out|refine below_set ?_ GE273.out|refine below_set ?_ GE275.out)|exact HB.out))):w.heap.size≤gb287));have n7_:=Aside0.mk ((by rw [hg];exact (below_size (by repeat (first|(with_reducible first|exact HB.out|apply below_alloc|apply pw_below_drewN|apply below_drew1|refine below_set ?_ GE271.out|refine below_set ?_ GE273.out|refine below_set ?_ GE275.out)|exact HB.out))):w.heap.size≤gb287));have n8_:=Aside0.mk ((by rw [hg];exact Nat.ne_of_lt (blk_lt (g:=gb271) (o:=.cells #[.int .i64 0,.int .i64 0,.int .i64 0,.int .i64 0,.slice none 0 0] 41 (0,0)) (by (with_reducible repeat (first|refine blk_drewN ?_ _|refine blk_drew ?_|refine blk_alloc ?_ _));exact BK271.out)):gb271≠gb287));have n9_:=Aside0.mk ((by rw [hg];exact Nat.ne_of_gt (blk_lt (g:=gb271) (o:=.cells #[.int .i64 0,.int .i64 0,.int .i64 0,.int .i64 0,.slice none 0 0] 41 (0,0)) (by (with_reducible repeat (first|refine blk_drewN ?_ _|refine blk_drew ?_|refine blk_alloc ?_ _));exact BK271.out)):gb287≠gb271));have n10_:=Aside0.mk ((by rw [hg];exact Nat.ne_of_lt (blk_lt (g:=gb273) (o:=.cells #[.int .i64 ((rd_T72 l1 (ji5)).f0),.int .i64 ((rd_T72 l1 (ji5)).f1),.slice A272_2 ((rd_T72 l1 ji5).f2).length c272_2] 72 (0,0)) (by (with_reducible repeat (first|refine blk_drewN ?_ _|refine blk_drew ?_|refine blk_alloc ?_ _));exact BK273.out)):gb273≠gb287));have n11_:=Aside0.mk ((by rw [hg];exact Nat.ne_of_gt (blk_lt (g:=gb273) (o:=.cells #[.int .i64 ((rd_T72 l1 (ji5)).f0),.int .i64 ((rd_T72 l1 (ji5)).f1),.slice A272_2 ((rd_T72 l1 ji5).f2).length c272_2] 72 (0,0)) (by (with_reducible repeat (first|refine blk_drewN ?_ _|refine blk_drew ?_|refine blk_alloc ?_ _));exact BK273.out)):gb287≠gb273));have n12_:=Aside0.mk ((by rw [hg];exact Nat.ne_of_lt (blk_lt (g:=gb275) (o:=.cells #[.int .i64 ji9,.int .i64 0,.int .i64 (wrap64 ((ji9)+a3)),.int .i64 0,u276004] 41 (0,0)) (by (with_reducible repeat (first|refine blk_drewN ?_ _|refine blk_drew ?_|refine blk_alloc ?_ _));exact BK275.out)):gb275≠gb287));have n13_:=Aside0.mk ((by rw [hg];exact Nat.ne_of_gt (blk_lt (g:=gb275) (o:=.cells #[.int .i64 ji9,.int .i64 0,.int .i64 (wrap64 ((ji9)+a3)),.int .i64 0,u276004] 41 (0,0)) (by (with_reducible repeat (first|refine blk_drewN ?_ _|refine blk_drew ?_|refine blk_alloc ?_ _));exact BK275.out)):gb287≠gb275));clear HO_276004;clear BK271;clear BK273;clear BK275;clear HB;have HO_276004:=n0_;have BK271:=n1_;have BK273:=n2_;have BK275:=n3_;have HB:=n4_;have BK287:=n5_;have GW287:=n6_;have GE287:=n7_;have NB271_287:=n8_;have NB287_271:=n9_;have NB273_287:=n10_;have NB287_273:=n11_;have NB275_287:=n12_;have NB287_275:=n13_;clear n0_ n1_ n2_ n3_ n4_ n5_ n6_ n7_ n8_ n9_ n10_ n11_ n12_ n13_;clear hb hbox hg;have hnb33:=NB287_271.out;have hnc33:=NB271_287.out;have hnb34:=NB287_273.out;have hnc34:=NB273_287.out;have hnb35:=NB287_275.out;have hnc35:=NB275_287.out;have hcz36_0:w32.cell? ⟨gb287,0,none⟩=some (.int .i64 0):=(blk_cell BK287.out 0).trans rfl;have hcz36_1:w32.cell? ⟨gb287,1,none⟩=some (.int .i64 0):=(blk_cell BK287.out 1).trans rfl;have hcz36_2:w32.cell? ⟨gb287,2,none⟩=some (.slice none 0 0):=(blk_cell BK287.out 2).trans rfl;have hfz36_0:=blk_frozen BK287.out 0;have hfz36_1:=blk_frozen BK287.out 1;have hfz36_2:=blk_frozen BK287.out 2))
               have n0_:Aside0 (Kd.R Kd.string 9 (((w32.setCell ⟨gb287,0,none⟩ (.int .i64 ((rd_T72 l1 x47_1).f0))).setCell ⟨gb287,1,none⟩ (.int .i64 ((rd_T72 l1 x47_1).f1))).setCell ⟨gb287,2,none⟩ (.slice A286_2 ((rd_T72 l1 x47_1).f2).length c286_2)) w.heap.size (fun _=>True) u276004 x276004_1):=⟨by (with_reducible repeat (first|apply Kd.R_alloc|apply Kd.R_drewN|apply Kd.R_drew));exact Kd.R_mono (Kd.R_far (p:=⟨gb287,2,none⟩) (Kd.R_far (p:=⟨gb287,1,none⟩) (Kd.R_far (p:=⟨gb287,0,none⟩) (Kd.R_types HO_276004.out BK287.out (by decide)) (fun _ hk=>hk.2) (.int .i64 ((rd_T72 l1 x47_1).f0))) (fun _ hk=>hk.2) (.int .i64 ((rd_T72 l1 x47_1).f1))) (fun _ hk=>hk.2) (.slice A286_2 ((rd_T72 l1 x47_1).f2).length c286_2)) (fun _ hk=>trivial)⟩
               have n1_:Aside0 ((((w32.setCell ⟨gb287,0,none⟩ (.int .i64 ((rd_T72 l1 x47_1).f0))).setCell ⟨gb287,1,none⟩ (.int .i64 ((rd_T72 l1 x47_1).f1))).setCell ⟨gb287,2,none⟩ (.slice A286_2 ((rd_T72 l1 x47_1).f2).length c286_2)).heap[gb271]?=some (.cells #[.int .i64 0,.int .i64 0,.int .i64 0,.int .i64 0,.slice none 0 0] 41 (0,0))):=⟨by (with_reducible repeat (first|refine blk_drewN ?_ _|refine blk_drew ?_|refine blk_alloc ?_ _));refine blk_far ?_ NB271_287.out _;(with_reducible repeat (first|refine blk_drewN ?_ _|refine blk_drew ?_|refine blk_alloc ?_ _));refine blk_far ?_ NB271_287.out _;(with_reducible repeat (first|refine blk_drewN ?_ _|refine blk_drew ?_|refine blk_alloc ?_ _));refine blk_far ?_ NB271_287.out _;(with_reducible repeat (first|refine blk_drewN ?_ _|refine blk_drew ?_|refine blk_alloc ?_ _));exact BK271.out⟩
               have n2_:Aside0 ((((w32.setCell ⟨gb287,0,none⟩ (.int .i64 ((rd_T72 l1 x47_1).f0))).setCell ⟨gb287,1,none⟩ (.int .i64 ((rd_T72 l1 x47_1).f1))).setCell ⟨gb287,2,none⟩ (.slice A286_2 ((rd_T72 l1 x47_1).f2).length c286_2)).heap[gb273]?=some (.cells #[.int .i64 ((rd_T72 l1 (ji5)).f0),.int .i64 ((rd_T72 l1 (ji5)).f1),.slice A272_2 ((rd_T72 l1 ji5).f2).length c272_2] 72 (0,0))):=⟨by (with_reducible repeat (first|refine blk_drewN ?_ _|refine blk_drew ?_|refine blk_alloc ?_ _));refine blk_far ?_ NB273_287.out _;(with_reducible repeat (first|refine blk_drewN ?_ _|refine blk_drew ?_|refine blk_alloc ?_ _));refine blk_far ?_ NB273_287.out _;(with_reducible repeat (first|refine blk_drewN ?_ _|refine blk_drew ?_|refine blk_alloc ?_ _));refine blk_far ?_ NB273_287.out _;(with_reducible repeat (first|refine blk_drewN ?_ _|refine blk_drew ?_|refine blk_alloc ?_ _));exact BK273.out⟩
               have n3_:Aside0 ((((w32.setCell ⟨gb287,0,none⟩ (.int .i64 ((rd_T72 l1 x47_1).f0))).setCell ⟨gb287,1,none⟩ (.int .i64 ((rd_T72 l1 x47_1).f1))).setCell ⟨gb287,2,none⟩ (.slice A286_2 ((rd_T72 l1 x47_1).f2).length c286_2)).heap[gb275]?=some (.cells #[.int .i64 ji9,.int .i64 0,.int .i64 (wrap64 ((ji9)+a3)),.int .i64 0,u276004] 41 (0,0))):=⟨by (with_reducible repeat (first|refine blk_drewN ?_ _|refine blk_drew ?_|refine blk_alloc ?_ _));refine blk_far ?_ NB275_287.out _;(with_reducible repeat (first|refine blk_drewN ?_ _|refine blk_drew ?_|refine blk_alloc ?_ _));refine blk_far ?_ NB275_287.out _;(with_reducible repeat (first|refine blk_drewN ?_ _|refine blk_drew ?_|refine blk_alloc ?_ _));refine blk_far ?_ NB275_287.out _;(with_reducible repeat (first|refine blk_drewN ?_ _|refine blk_drew ?_|refine blk_alloc ?_ _));exact BK275.out⟩
               have n4_:Aside0 ((((w32.setCell ⟨gb287,0,none⟩ (.int .i64 ((rd_T72 l1 x47_1).f0))).setCell ⟨gb287,1,none⟩ (.int .i64 ((rd_T72 l1 x47_1).f1))).setCell ⟨gb287,2,none⟩ (.slice A286_2 ((rd_T72 l1 x47_1).f2).length c286_2)).heap[gb287]?=some (.cells #[.int .i64 ((rd_T72 l1 x47_1).f0),.int .i64 ((rd_T72 l1 x47_1).f1),.slice A286_2 ((rd_T72 l1 x47_1).f2).length c286_2] 72 (0,0))):=⟨by (with_reducible repeat (first|refine blk_drewN ?_ _|refine blk_drew ?_|refine blk_alloc ?_ _));refine blk_put (cs:=#[.int .i64 ((rd_T72 l1 x47_1).f0),.int .i64 ((rd_T72 l1 x47_1).f1),.slice none 0 0]) ?_ 2 _ rfl;(with_reducible repeat (first|refine blk_drewN ?_ _|refine blk_drew ?_|refine blk_alloc ?_ _));refine blk_put (cs:=#[.int .i64 ((rd_T72 l1 x47_1).f0),.int .i64 0,.slice none 0 0]) ?_ 1 _ rfl;(with_reducible repeat (first|refine blk_drewN ?_ _|refine blk_drew ?_|refine blk_alloc ?_ _));refine blk_put (cs:=#[.int .i64 0,.int .i64 0,.slice none 0 0]) ?_ 0 _ rfl;(with_reducible repeat (first|refine blk_drewN ?_ _|refine blk_drew ?_|refine blk_alloc ?_ _));exact BK287.out⟩
               have n5_:Aside0 (Below w.heap.size w (((w32.setCell ⟨gb287,0,none⟩ (.int .i64 ((rd_T72 l1 x47_1).f0))).setCell ⟨gb287,1,none⟩ (.int .i64 ((rd_T72 l1 x47_1).f1))).setCell ⟨gb287,2,none⟩ (.slice A286_2 ((rd_T72 l1 x47_1).f2).length c286_2))):=⟨by repeat (first|(with_reducible first|exact HB.out|apply below_alloc|apply pw_below_drewN|apply below_drew1|refine below_set ?_ GE271.out|refine below_set ?_ GE273.out|refine below_set ?_ GE275.out|refine below_set ?_ GE287.out)|exact HB.out)⟩
               (try clear HO_276004)
               (try clear BK271)
               (try clear BK273)
               (try clear BK275)
               (try clear BK287)
               (try clear HB)
               generalize (((w32.setCell ⟨gb287,0,none⟩ (.int .i64 ((rd_T72 l1 x47_1).f0))).setCell ⟨gb287,1,none⟩ (.int .i64 ((rd_T72 l1 x47_1).f1))).setCell ⟨gb287,2,none⟩ (.slice A286_2 ((rd_T72 l1 x47_1).f2).length c286_2))=w37 at n0_ n1_ n2_ n3_ n4_ n5_ ⊢
               have HO_276004:=n0_
               have BK271:=n1_
               have BK273:=n2_
               have BK275:=n3_
               have BK287:=n4_
               have HB:=n5_
               clear n0_ n1_ n2_ n3_ n4_ n5_
               have n0_:=Aside0.mk (Kd.R_drew HO_276004.out)
               have n1_:=Aside0.mk (blk_drew BK271.out)
               have n2_:=Aside0.mk (blk_drew BK273.out)
               have n3_:=Aside0.mk (blk_drew BK275.out)
               have n4_:=Aside0.mk (blk_drew BK287.out)
               have n5_:=Aside0.mk (below_drew1 HB.out)
               clear HO_276004
               clear BK271
               clear BK273
               clear BK275
               clear BK287
               clear HB
               have HO_276004:=n0_
               have BK271:=n1_
               have BK273:=n2_
               have BK275:=n3_
               have BK287:=n4_
               have HB:=n5_
               clear n0_ n1_ n2_ n3_ n4_ n5_
               obtain ⟨i039,hi039,_,hsz39,_⟩:=info_parts info9
               obtain ⟨A39,hcut39,hA39,hC39⟩:=print_mid_of (P:=Tryd.prog) Value.string (⟨#[]⟩:ByteArray) 33 9 .i64 .i64 Tryd.underlying33 hi039 hsz39 A0 c0 l0 x13_1 ((rd_T72 l1 x47_1).f0) (of_decide_eq_true (by first|(with_reducible assumption)|assumption)) (by first|omega|exact of_decide_eq_true (by first|(with_reducible assumption)|assumption)) (of_decide_eq_true (by first|(with_reducible assumption)|assumption)) HC0.out
               have HR288:=Aside0.mk (Kd.C_of_reads (h1:=fun _=>rfl) (hA39 _ (Kd.reads_of_C HR0.out)))
               have HC288:=Aside0.mk hC39
               clear hA39 hC39 hi039 hsz39
               obtain ⟨i040,hi040,_,hsz40,_⟩:=info_parts info9
               obtain ⟨A40,hcut40,hA40,hC40⟩:=print_mid_of (P:=Tryd.prog) Value.string (⟨#[]⟩:ByteArray) 33 9 .i64 .i64 Tryd.underlying33 hi040 hsz40 A0 c0 l0 ((rd_T72 l1 x47_1).f0) (wrap64 (((rd_T72 l1 x47_1).f0)+((rd_T72 l1 x47_1).f1))) (of_decide_eq_true (by first|(with_reducible assumption)|assumption)) (by first|omega|exact of_decide_eq_true (by first|(with_reducible assumption)|assumption)) (of_decide_eq_true (by first|(with_reducible assumption)|assumption)) HC0.out
               have HR292:=Aside0.mk (Kd.C_of_reads (h1:=fun _=>rfl) (hA40 _ (Kd.reads_of_C HR0.out)))
               have HC292:=Aside0.mk hC40
               clear hA40 hC40 hi040 hsz40
               refine start_ (n:=25) (S:=fun w'=>w'.cell? ⟨gb275,0,none⟩=some (.int .i64 ji9)∧w'.cell? ⟨gb275,1,none⟩=some (.int .i64 0)∧w'.cell? ⟨gb275,2,none⟩=some (.int .i64 (wrap64 ((ji9)+a3)))∧w'.cell? ⟨gb275,3,none⟩=some (.int .i64 0)∧w'.cell? ⟨gb275,4,none⟩=some (u276004)∧w'.cell? ⟨gb287,0,none⟩=some (.int .i64 ((rd_T72 l1 x47_1).f0))∧w'.cell? ⟨gb287,1,none⟩=some (.int .i64 ((rd_T72 l1 x47_1).f1))∧w'.cell? ⟨gb287,2,none⟩=some (.slice A286_2 ((rd_T72 l1 x47_1).f2).length c286_2)) (ds:=[24]) #[false,false,false,false,false,false,false,false,false,false,false,false,false,false,false,false,false,false,false,false,false,false,false,false,false] (by kernel_rfl) rfl rfl ⟨(blk_cell BK275.out 0).trans rfl,(blk_cell BK275.out 1).trans rfl,(blk_cell BK275.out 2).trans rfl,(blk_cell BK275.out 3).trans rfl,(blk_cell BK275.out 4).trans rfl,(blk_cell BK287.out 0).trans rfl,(blk_cell BK287.out 1).trans rfl,(blk_cell BK287.out 2).trans rfl⟩ (fun hHeld=>?_);refine with_tabW hunk_group.tab9 hunk_group.bits9 (fun HT_ HW_=>?_)
               generalize w37.drew=w38 at HO_276004 BK271 BK273 BK275 BK287 HB HR288 HR292 hHeld ⊢
               refine pure_ (i:=0) (N:=some 51) (v:=?_) (a':=?_) #[true,false,false,false,false,false,false,false,false,false,false,false,false,false,false,false,false,false,false,false,false,false,false,false,false] rfl rfl (any_of HT_.out (by kernel_rfl)) (fun _ _ _ h=>h) (Or.inl ⟨by rfl,?_⟩) ?_ ?_
               rotate_left
               ·intro w'
                go_simp
                with_reducible rfl
               rotate_left
               ·simp only [Act.put,List.setIfInBounds_toArray,List.set_cons_zero,List.set_cons_succ,i64_w,i32_w]
                rfl
               refine pure_ (i:=2) (N:=some 53) (v:=?_) (a':=?_) #[true,false,true,false,false,false,false,false,false,false,false,false,false,false,false,false,false,false,false,false,false,false,false,false,false] rfl rfl (any_of HT_.out (by kernel_rfl)) (fun _ _ _ h=>h) (Or.inl ⟨by rfl,?_⟩) ?_ ?_
               rotate_left
               ·intro w'
                go_simp
                with_reducible rfl
               rotate_left
               ·simp only [Act.put,List.setIfInBounds_toArray,List.set_cons_zero,List.set_cons_succ,i64_w,i32_w]
                rfl
               refine pure_ (i:=3) (N:=some 54) (v:=?_) (a':=?_) #[true,false,true,true,false,false,false,false,false,false,false,false,false,false,false,false,false,false,false,false,false,false,false,false,false] rfl rfl (any_of HT_.out (by kernel_rfl)) (fun _ _ _ h=>h) (Or.inl ⟨by rfl,?_⟩) ?_ ?_
               rotate_left
               ·intro w'
                go_simp
                with_reducible rfl
               rotate_left
               ·simp only [Act.put,List.setIfInBounds_toArray,List.set_cons_zero,List.set_cons_succ,i64_w,i32_w]
                rfl
               refine pure_ (i:=4) (N:=some 55) (v:=?_) (a':=?_) #[true,false,true,true,true,false,false,false,false,false,false,false,false,false,false,false,false,false,false,false,false,false,false,false,false] rfl rfl (any_of HT_.out (by kernel_rfl)) (fun _ _ _ h=>h) (Or.inl ⟨by rfl,?_⟩) ?_ ?_
               rotate_left
               ·intro w'
                go_simp
                with_reducible rfl
               rotate_left
               ·simp only [Act.put,List.setIfInBounds_toArray,List.set_cons_zero,List.set_cons_succ,i64_w,i32_w]
                rfl
               refine pure_ (i:=8) (N:=some 59) (v:=?_) (a':=?_) #[true,false,true,true,true,false,false,false,true,false,false,false,false,false,false,false,false,false,false,false,false,false,false,false,false] rfl rfl (any_of HT_.out (by kernel_rfl)) (fun _ _ _ h=>h) (Or.inl ⟨by rfl,?_⟩) ?_ ?_
               rotate_left
               ·intro w'
                go_simp
                with_reducible rfl
               rotate_left
               ·simp only [Act.put,List.setIfInBounds_toArray,List.set_cons_zero,List.set_cons_succ,i64_w,i32_w]
                rfl
               refine pure_ (i:=9) (N:=some 60) (v:=?_) (a':=?_) #[true,false,true,true,true,false,false,false,true,true,false,false,false,false,false,false,false,false,false,false,false,false,false,false,false] rfl rfl (any_of HT_.out (by kernel_rfl)) (fun _ _ _ h=>h) (Or.inl ⟨by rfl,?_⟩) ?_ ?_
               rotate_left
               ·intro w'
                go_simp
                with_reducible rfl
               rotate_left
               ·simp only [Act.put,List.setIfInBounds_toArray,List.set_cons_zero,List.set_cons_succ,i64_w,i32_w]
                rfl
               refine pure_ (i:=11) (N:=some 62) (v:=?_) (a':=?_) #[true,false,true,true,true,false,false,false,true,true,false,true,false,false,false,false,false,false,false,false,false,false,false,false,false] rfl rfl (any_of HT_.out (by kernel_rfl)) (fun _ _ _ h=>h) (Or.inl ⟨by rfl,?_⟩) ?_ ?_
               rotate_left
               ·intro w'
                go_simp
                with_reducible rfl
               rotate_left
               ·simp only [Act.put,List.setIfInBounds_toArray,List.set_cons_zero,List.set_cons_succ,i64_w,i32_w]
                rfl
               refine pure_ (i:=13) (N:=some 64) (v:=?_) (a':=?_) #[true,false,true,true,true,false,false,false,true,true,false,true,false,true,false,false,false,false,false,false,false,false,false,false,false] rfl rfl (any_of HT_.out (by kernel_rfl)) (fun _ _ _ h=>h) (Or.inl ⟨by rfl,?_⟩) ?_ ?_
               rotate_left
               ·intro w'
                go_simp
                with_reducible rfl
               rotate_left
               ·simp only [Act.put,List.setIfInBounds_toArray,List.set_cons_zero,List.set_cons_succ,i64_w,i32_w]
                rfl
               refine pure_ (i:=18) (N:=some 69) (v:=?_) (a':=?_) #[true,false,true,true,true,false,false,false,true,true,false,true,false,true,false,false,false,false,true,false,false,false,false,false,false] rfl rfl (any_of HT_.out (by kernel_rfl)) (fun _ _ _ h=>h) (Or.inl ⟨by rfl,?_⟩) ?_ ?_
               rotate_left
               ·intro w'
                go_simp
                with_reducible rfl
               rotate_left
               ·simp only [Act.put,List.setIfInBounds_toArray,List.set_cons_zero,List.set_cons_succ,i64_w,i32_w]
                rfl
               refine take_ (i:=1) (N:=some 52) (v:=?_) (a':=?_) #[true,true,true,true,true,false,false,false,true,true,false,true,false,true,false,false,false,false,true,false,false,false,false,false,false] rfl rfl (take_ofW HT_.out HW_.out (by kernel_rfl)) (fun _ _ _ h=>h) (Or.inl ⟨by rfl,?_⟩) hHeld ?_ ?_
               rotate_left
               ·rintro w' ⟨s0,s1,s2,s3,s4,s5,s6,s7⟩
                go_simp
                with_reducible rfl
               rotate_left
               ·simp only [Act.put,List.setIfInBounds_toArray,List.set_cons_zero,List.set_cons_succ,i64_w,i32_w]
                rfl
               refine take_ (i:=5) (N:=some 56) (v:=?_) (a':=?_) #[true,true,true,true,true,true,false,false,true,true,false,true,false,true,false,false,false,false,true,false,false,false,false,false,false] rfl rfl (take_ofW HT_.out HW_.out (by kernel_rfl)) (fun _ _ _ h=>h) (Or.inl ⟨by rfl,?_⟩) hHeld ?_ ?_
               rotate_left
               ·rintro w' ⟨s0,s1,s2,s3,s4,s5,s6,s7⟩
                go_simp
                with_reducible rfl
               rotate_left
               ·simp only [Act.put,List.setIfInBounds_toArray,List.set_cons_zero,List.set_cons_succ,i64_w,i32_w]
                rfl
               refine pure_ (i:=6) (N:=some 57) (v:=?_) (a':=?_) #[true,true,true,true,true,true,true,false,true,true,false,true,false,true,false,false,false,false,true,false,false,false,false,false,false] rfl rfl (any_of HT_.out (by kernel_rfl)) (fun _ _ _ h=>h) (Or.inl ⟨by rfl,?_⟩) ?_ ?_
               rotate_left
               ·intro w'
                go_simp
                with_reducible rfl
               rotate_left
               ·simp only [Act.put,List.setIfInBounds_toArray,List.set_cons_zero,List.set_cons_succ,i64_w,i32_w]
                rfl
               refine take_ (i:=10) (N:=some 61) (v:=?_) (a':=?_) #[true,true,true,true,true,true,true,false,true,true,true,true,false,true,false,false,false,false,true,false,false,false,false,false,false] rfl rfl (take_ofW HT_.out HW_.out (by kernel_rfl)) (fun _ _ _ h=>h) (Or.inl ⟨by rfl,?_⟩) hHeld ?_ ?_
               rotate_left
               ·rintro w' ⟨s0,s1,s2,s3,s4,s5,s6,s7⟩
                go_simp
                with_reducible rfl
               rotate_left
               ·simp only [Act.put,List.setIfInBounds_toArray,List.set_cons_zero,List.set_cons_succ,i64_w,i32_w]
                rfl
               refine take_ (i:=12) (N:=some 63) (v:=?_) (a':=?_) #[true,true,true,true,true,true,true,false,true,true,true,true,true,true,false,false,false,false,true,false,false,false,false,false,false] rfl rfl (take_ofW HT_.out HW_.out (by kernel_rfl)) (fun _ _ _ h=>h) (Or.inl ⟨by rfl,?_⟩) hHeld ?_ ?_
               rotate_left
               ·rintro w' ⟨s0,s1,s2,s3,s4,s5,s6,s7⟩
                go_simp
                with_reducible rfl
               rotate_left
               ·simp only [Act.put,List.setIfInBounds_toArray,List.set_cons_zero,List.set_cons_succ,i64_w,i32_w]
                rfl
               refine take_ (i:=14) (N:=some 65) (v:=?_) (a':=?_) #[true,true,true,true,true,true,true,false,true,true,true,true,true,true,true,false,false,false,true,false,false,false,false,false,false] rfl rfl (take_ofW HT_.out HW_.out (by kernel_rfl)) (fun _ _ _ h=>h) (Or.inl ⟨by rfl,?_⟩) hHeld ?_ ?_
               rotate_left
               ·rintro w' ⟨s0,s1,s2,s3,s4,s5,s6,s7⟩
                go_simp
                with_reducible rfl
               rotate_left
               ·simp only [Act.put,List.setIfInBounds_toArray,List.set_cons_zero,List.set_cons_succ,i64_w,i32_w]
                rfl
               refine pure_ (i:=15) (N:=some 66) (v:=?_) (a':=?_) #[true,true,true,true,true,true,true,false,true,true,true,true,true,true,true,true,false,false,true,false,false,false,false,false,false] rfl rfl (any_of HT_.out (by kernel_rfl)) (fun _ _ _ h=>h) (Or.inl ⟨by rfl,?_⟩) ?_ ?_
               rotate_left
               ·intro w'
                go_simp
                with_reducible rfl
               rotate_left
               ·simp only [Act.put,List.setIfInBounds_toArray,List.set_cons_zero,List.set_cons_succ,i64_w,i32_w]
                rfl
               refine pure_ (i:=16) (N:=some 67) (v:=?_) (a':=?_) #[true,true,true,true,true,true,true,false,true,true,true,true,true,true,true,true,true,false,true,false,false,false,false,false,false] rfl rfl (any_of HT_.out (by kernel_rfl)) (fun _ _ _ h=>h) (Or.inl ⟨by rfl,?_⟩) ?_ ?_
               rotate_left
               ·intro w'
                go_simp
                with_reducible rfl
               rotate_left
               ·simp only [Act.put,List.setIfInBounds_toArray,List.set_cons_zero,List.set_cons_succ,i64_w,i32_w]
                rfl
               refine take_ (i:=19) (N:=some 70) (v:=?_) (a':=?_) #[true,true,true,true,true,true,true,false,true,true,true,true,true,true,true,true,true,false,true,true,false,false,false,false,false] rfl rfl (take_ofW HT_.out HW_.out (by kernel_rfl)) (fun _ _ _ h=>h) (Or.inl ⟨by rfl,?_⟩) hHeld ?_ ?_
               rotate_left
               ·rintro w' ⟨s0,s1,s2,s3,s4,s5,s6,s7⟩
                go_simp
                with_reducible rfl
               rotate_left
               ·simp only [Act.put,List.setIfInBounds_toArray,List.set_cons_zero,List.set_cons_succ,i64_w,i32_w]
                rfl
               refine one_ (i:=7) (N:=some 58) #[true,true,true,true,true,true,true,true,true,true,true,true,true,true,true,true,true,false,true,true,false,false,false,false,false] rfl rfl (one_of HT_.out (by kernel_rfl)) (by decide) (fun K hK=>?_)
               refine goes_ Tryd.func69 (by kernel_rfl) rfl #[.int .u8 32,.slice A39 ((l0.take (((rd_T72 l1 x47_1).f0):Int).toNat).drop (x13_1:Int).toNat).length (c0 - x13_1.toNat)] (by rfl) rfl rfl (by (try simp only [List.map_toArray,List.map_cons,List.map_nil]);first|done|(rw [show ((l0.take (((rd_T72 l1 x47_1).f0):Int).toNat).drop (x13_1:Int).toNat).length=(((rd_T72 l1 x47_1).f0).toNat - x13_1.toNat) from (by rw [List.length_drop,List.length_take];have h_:(((rd_T72 l1 x47_1).f0):Int)≤(l0.length:Int):=of_decide_eq_true (by first|(with_reducible assumption)|assumption);omega)]<;>rfl)|rfl|(simp only [List.length_drop,List.length_take];rfl)) ?_
               with_reducible refine (hunk_signed.calls k1 32 _ _ ((l0.take (((rd_T72 l1 x47_1).f0):Int).toNat).drop (x13_1:Int).toNat) t289 _ ?side1 ?side2 A25.out).mono ?_
               (case side1=>repeat (first|exact (Kd.C_below HR288.out HB.out)|(with_reducible refine Kd.C_alloc ?_ _)|(with_reducible refine Kd.C_drewN ?_ _)|(with_reducible refine Kd.C_drew ?_)))
               (case side2=>exact HC288.out)
               rintro e w41 ⟨v290,rfl,ho0,hb⟩
               refine ⟨_,rfl,?_⟩
               have n0_:=Aside0.mk (Kd.R_elder' (by (with_reducible repeat (first|apply Kd.R_alloc|apply Kd.R_drewN|apply Kd.R_drew));exact HO_276004.out) (Kd.R_base ho0) hb)
               have n1_:=Aside0.mk (Kd.R_lower (Kd.R_new' ho0 (Kd.R_lt (by (with_reducible repeat (first|apply Kd.R_alloc|apply Kd.R_drewN|apply Kd.R_drew));exact HO_276004.out))) (below_size (by repeat (first|(with_reducible first|exact HB.out|apply below_alloc|apply pw_below_drewN|apply below_drew1|refine below_set ?_ GE271.out|refine below_set ?_ GE273.out|refine below_set ?_ GE275.out|refine below_set ?_ GE287.out)|exact HB.out))))
               have n2_:=Aside0.mk (blk_below (g:=gb271) (o:=.cells #[.int .i64 0,.int .i64 0,.int .i64 0,.int .i64 0,.slice none 0 0] 41 (0,0)) (by (with_reducible repeat (first|refine blk_drewN ?_ _|refine blk_drew ?_|refine blk_alloc ?_ _));exact BK271.out) hb)
               have n3_:=Aside0.mk (blk_below (g:=gb273) (o:=.cells #[.int .i64 ((rd_T72 l1 (ji5)).f0),.int .i64 ((rd_T72 l1 (ji5)).f1),.slice A272_2 ((rd_T72 l1 ji5).f2).length c272_2] 72 (0,0)) (by (with_reducible repeat (first|refine blk_drewN ?_ _|refine blk_drew ?_|refine blk_alloc ?_ _));exact BK273.out) hb)
               have n4_:=Aside0.mk (blk_below (g:=gb275) (o:=.cells #[.int .i64 ji9,.int .i64 0,.int .i64 (wrap64 ((ji9)+a3)),.int .i64 0,u276004] 41 (0,0)) (by (with_reducible repeat (first|refine blk_drewN ?_ _|refine blk_drew ?_|refine blk_alloc ?_ _));exact BK275.out) hb)
               have n5_:=Aside0.mk (blk_below (g:=gb287) (o:=.cells #[.int .i64 ((rd_T72 l1 x47_1).f0),.int .i64 ((rd_T72 l1 x47_1).f1),.slice A286_2 ((rd_T72 l1 x47_1).f2).length c286_2] 72 (0,0)) (by (with_reducible repeat (first|refine blk_drewN ?_ _|refine blk_drew ?_|refine blk_alloc ?_ _));exact BK287.out) hb)
               have n6_:=Aside0.mk (below_step (by repeat (first|(with_reducible first|exact HB.out|apply below_alloc|apply pw_below_drewN|apply below_drew1|refine below_set ?_ GE271.out|refine below_set ?_ GE273.out|refine below_set ?_ GE275.out|refine below_set ?_ GE287.out)|exact HB.out)) hb)
               clear HO_276004
               clear BK271
               clear BK273
               clear BK275
               clear BK287
               clear HB
               have HO_276004:=n0_
               have HO291:=n1_
               have BK271:=n2_
               have BK273:=n3_
               have BK275:=n4_
               have BK287:=n5_
               have HB:=n6_
               clear n0_ n1_ n2_ n3_ n4_ n5_ n6_
               (try clear hb)
               (try clear hb2)
               (try clear hk)
               (try clear hi)
               (try clear ho0)
               refine hK.out _ _ ⟨(blk_cell BK275.out 0).trans rfl,(blk_cell BK275.out 1).trans rfl,(blk_cell BK275.out 2).trans rfl,(blk_cell BK275.out 3).trans rfl,(blk_cell BK275.out 4).trans rfl,(blk_cell BK287.out 0).trans rfl,(blk_cell BK287.out 1).trans rfl,(blk_cell BK287.out 2).trans rfl⟩ (fun hHeld=>?_)
               clear hK K
               refine norm_ (a':=?_) ?_ ?_
               rotate_left
               ·show Act.put _ (some 58) _=_
                simp only [Act.put,List.setIfInBounds_toArray,List.set_cons_zero,List.set_cons_succ,i64_w,i32_w]
                rfl
               refine one_ (i:=17) (N:=some 68) #[true,true,true,true,true,true,true,true,true,true,true,true,true,true,true,true,true,true,true,true,false,false,false,false,false] rfl rfl (one_of HT_.out (by kernel_rfl)) (by decide) (fun K hK=>?_)
               refine goes_ Tryd.func69 (by kernel_rfl) rfl #[.int .u8 45,.slice A40 ((l0.take ((wrap64 (((rd_T72 l1 x47_1).f0)+((rd_T72 l1 x47_1).f1))):Int).toNat).drop (((rd_T72 l1 x47_1).f0):Int).toNat).length (c0 - ((rd_T72 l1 x47_1).f0).toNat)] (by rfl) rfl rfl (by (try simp only [List.map_toArray,List.map_cons,List.map_nil]);first|done|(rw [show ((l0.take ((wrap64 (((rd_T72 l1 x47_1).f0)+((rd_T72 l1 x47_1).f1))):Int).toNat).drop (((rd_T72 l1 x47_1).f0):Int).toNat).length=((wrap64 (((rd_T72 l1 x47_1).f0)+((rd_T72 l1 x47_1).f1))).toNat - ((rd_T72 l1 x47_1).f0).toNat) from (by rw [List.length_drop,List.length_take];have h_:((wrap64 (((rd_T72 l1 x47_1).f0)+((rd_T72 l1 x47_1).f1))):Int)≤(l0.length:Int):=of_decide_eq_true (by first|(with_reducible assumption)|assumption);omega)]<;>rfl)|rfl|(simp only [List.length_drop,List.length_take];rfl)) ?_
               with_reducible refine (hunk_signed.calls k1 45 _ _ ((l0.take ((wrap64 (((rd_T72 l1 x47_1).f0)+((rd_T72 l1 x47_1).f1))):Int).toNat).drop (((rd_T72 l1 x47_1).f0):Int).toNat) t293 _ ?side1 ?side2 A29.out).mono ?_
               (case side1=>repeat (first|exact (Kd.C_below HR292.out HB.out)|(with_reducible refine Kd.C_alloc ?_ _)|(with_reducible refine Kd.C_drewN ?_ _)|(with_reducible refine Kd.C_drew ?_)))
               (case side2=>exact HC292.out)
               rintro e w42 ⟨v294,rfl,ho0,hb⟩
               refine ⟨_,rfl,?_⟩
               have n0_:=Aside0.mk (Kd.R_elder' (by (with_reducible repeat (first|apply Kd.R_alloc|apply Kd.R_drewN|apply Kd.R_drew));exact HO_276004.out) (Kd.R_base ho0) hb)
               have n1_:=Aside0.mk (Kd.R_elder' (by (with_reducible repeat (first|apply Kd.R_alloc|apply Kd.R_drewN|apply Kd.R_drew));exact HO291.out) (Kd.R_base ho0) hb)
               have n2_:=Aside0.mk (Kd.R_lower (Kd.R_new' (Kd.R_new' ho0 (Kd.R_lt (by (with_reducible repeat (first|apply Kd.R_alloc|apply Kd.R_drewN|apply Kd.R_drew));exact HO_276004.out))) (Kd.R_lt (by (with_reducible repeat (first|apply Kd.R_alloc|apply Kd.R_drewN|apply Kd.R_drew));exact HO291.out))) (below_size (by repeat (first|(with_reducible first|exact HB.out|apply below_alloc|apply pw_below_drewN|apply below_drew1|refine below_set ?_ GE271.out|refine below_set ?_ GE273.out|refine below_set ?_ GE275.out|refine below_set ?_ GE287.out)|exact HB.out))))
               have n3_:=Aside0.mk (blk_below (g:=gb271) (o:=.cells #[.int .i64 0,.int .i64 0,.int .i64 0,.int .i64 0,.slice none 0 0] 41 (0,0)) (by (with_reducible repeat (first|refine blk_drewN ?_ _|refine blk_drew ?_|refine blk_alloc ?_ _));exact BK271.out) hb)
               have n4_:=Aside0.mk (blk_below (g:=gb273) (o:=.cells #[.int .i64 ((rd_T72 l1 (ji5)).f0),.int .i64 ((rd_T72 l1 (ji5)).f1),.slice A272_2 ((rd_T72 l1 ji5).f2).length c272_2] 72 (0,0)) (by (with_reducible repeat (first|refine blk_drewN ?_ _|refine blk_drew ?_|refine blk_alloc ?_ _));exact BK273.out) hb)
               have n5_:=Aside0.mk (blk_below (g:=gb275) (o:=.cells #[.int .i64 ji9,.int .i64 0,.int .i64 (wrap64 ((ji9)+a3)),.int .i64 0,u276004] 41 (0,0)) (by (with_reducible repeat (first|refine blk_drewN ?_ _|refine blk_drew ?_|refine blk_alloc ?_ _));exact BK275.out) hb)
               have n6_:=Aside0.mk (blk_below (g:=gb287) (o:=.cells #[.int .i64 ((rd_T72 l1 x47_1).f0),.int .i64 ((rd_T72 l1 x47_1).f1),.slice A286_2 ((rd_T72 l1 x47_1).f2).length c286_2] 72 (0,0)) (by (with_reducible repeat (first|refine blk_drewN ?_ _|refine blk_drew ?_|refine blk_alloc ?_ _));exact BK287.out) hb)
               have n7_:=Aside0.mk (below_step (by repeat (first|(with_reducible first|exact HB.out|apply below_alloc|apply pw_below_drewN|apply below_drew1|refine below_set ?_ GE271.out|refine below_set ?_ GE273.out|refine below_set ?_ GE275.out|refine below_set ?_ GE287.out)|exact HB.out)) hb)
               clear HO_276004
               clear HO291
               clear BK271
               clear BK273
               clear BK275
               clear BK287
               clear HB
               have HO_276004:=n0_
               have HO291:=n1_
               have HO295:=n2_
               have BK271:=n3_
               have BK273:=n4_
               have BK275:=n5_
               have BK287:=n6_
               have HB:=n7_
               clear n0_ n1_ n2_ n3_ n4_ n5_ n6_ n7_
               (try clear hb)
               (try clear hb2)
               (try clear hk)
               (try clear hi)
               (try clear ho0)
               refine hK.out _ _ ⟨(blk_cell BK275.out 0).trans rfl,(blk_cell BK275.out 1).trans rfl,(blk_cell BK275.out 2).trans rfl,(blk_cell BK275.out 3).trans rfl,(blk_cell BK275.out 4).trans rfl,(blk_cell BK287.out 0).trans rfl,(blk_cell BK287.out 1).trans rfl,(blk_cell BK287.out 2).trans rfl⟩ (fun hHeld=>?_)
               clear hK K
               refine norm_ (a':=?_) ?_ ?_
               rotate_left
               ·show Act.put _ (some 68) _=_
                simp only [Act.put,List.setIfInBounds_toArray,List.set_cons_zero,List.set_cons_succ,i64_w,i32_w]
                rfl
               refine one_ (i:=20) (N:=some 71) #[true,true,true,true,true,true,true,true,true,true,true,true,true,true,true,true,true,true,true,true,true,false,false,false,false] rfl rfl (one_of HT_.out (by kernel_rfl)) (by decide) (fun K hK=>?_)
               refine goes_ Tryd.func69 (by kernel_rfl) rfl #[.int .u8 43,.slice A286_2 ((rd_T72 l1 x47_1).f2).length c286_2] (by rfl) rfl rfl (by (try simp only [List.map_toArray,List.map_cons,List.map_nil]);first|done|rfl|(simp only [List.length_drop,List.length_take];rfl)) ?_
               with_reducible refine (hunk_signed.calls k1 43 _ _ ((rd_T72 l1 x47_1).f2) t296 _ ?side1 ?side2 A30.out).mono ?_
               (case side1=>repeat (first|exact (Kd.C_below HR286_2.out HB.out)|(with_reducible refine Kd.C_alloc ?_ _)|(with_reducible refine Kd.C_drewN ?_ _)|(with_reducible refine Kd.C_drew ?_)))
               (case side2=>exact HC286_2.out)
               rintro e w43 ⟨v297,rfl,ho0,hb⟩
               refine ⟨_,rfl,?_⟩
               have n0_:=Aside0.mk (Kd.R_elder' (by (with_reducible repeat (first|apply Kd.R_alloc|apply Kd.R_drewN|apply Kd.R_drew));exact HO_276004.out) (Kd.R_base ho0) hb)
               have n1_:=Aside0.mk (Kd.R_elder' (by (with_reducible repeat (first|apply Kd.R_alloc|apply Kd.R_drewN|apply Kd.R_drew));exact HO291.out) (Kd.R_base ho0) hb)
               have n2_:=Aside0.mk (Kd.R_elder' (by (with_reducible repeat (first|apply Kd.R_alloc|apply Kd.R_drewN|apply Kd.R_drew));exact HO295.out) (Kd.R_base ho0) hb)
               have n3_:=Aside0.mk (Kd.R_lower (Kd.R_new' (Kd.R_new' (Kd.R_new' ho0 (Kd.R_lt (by (with_reducible repeat (first|apply Kd.R_alloc|apply Kd.R_drewN|apply Kd.R_drew));exact HO_276004.out))) (Kd.R_lt (by (with_reducible repeat (first|apply Kd.R_alloc|apply Kd.R_drewN|apply Kd.R_drew));exact HO291.out))) (Kd.R_lt (by (with_reducible repeat (first|apply Kd.R_alloc|apply Kd.R_drewN|apply Kd.R_drew));exact HO295.out))) (below_size (by repeat (first|(with_reducible first|exact HB.out|apply below_alloc|apply pw_below_drewN|apply below_drew1|refine below_set ?_ GE271.out|refine below_set ?_ GE273.out|refine below_set ?_ GE275.out|refine below_set ?_ GE287.out)|exact HB.out))))
               have n4_:=Aside0.mk (blk_below (g:=gb271) (o:=.cells #[.int .i64 0,.int .i64 0,.int .i64 0,.int .i64 0,.slice none 0 0] 41 (0,0)) (by (with_reducible repeat (first|refine blk_drewN ?_ _|refine blk_drew ?_|refine blk_alloc ?_ _));exact BK271.out) hb)
               have n5_:=Aside0.mk (blk_below (g:=gb273) (o:=.cells #[.int .i64 ((rd_T72 l1 (ji5)).f0),.int .i64 ((rd_T72 l1 (ji5)).f1),.slice A272_2 ((rd_T72 l1 ji5).f2).length c272_2] 72 (0,0)) (by (with_reducible repeat (first|refine blk_drewN ?_ _|refine blk_drew ?_|refine blk_alloc ?_ _));exact BK273.out) hb)
               have n6_:=Aside0.mk (blk_below (g:=gb275) (o:=.cells #[.int .i64 ji9,.int .i64 0,.int .i64 (wrap64 ((ji9)+a3)),.int .i64 0,u276004] 41 (0,0)) (by (with_reducible repeat (first|refine blk_drewN ?_ _|refine blk_drew ?_|refine blk_alloc ?_ _));exact BK275.out) hb)
               have n7_:=Aside0.mk (blk_below (g:=gb287) (o:=.cells #[.int .i64 ((rd_T72 l1 x47_1).f0),.int .i64 ((rd_T72 l1 x47_1).f1),.slice A286_2 ((rd_T72 l1 x47_1).f2).length c286_2] 72 (0,0)) (by (with_reducible repeat (first|refine blk_drewN ?_ _|refine blk_drew ?_|refine blk_alloc ?_ _));exact BK287.out) hb)
               have n8_:=Aside0.mk (below_step (by repeat (first|(with_reducible first|exact HB.out|apply below_alloc|apply pw_below_drewN|apply below_drew1|refine below_set ?_ GE271.out|refine below_set ?_ GE273.out|refine below_set ?_ GE275.out|refine below_set ?_ GE287.out)|exact HB.out)) hb)
               clear HO_276004
               clear HO291
               clear HO295
               clear BK271
               clear BK273
               clear BK275
               clear BK287
               clear HB
               have HO_276004:=n0_
               have HO291:=n1_
               have HO295:=n2_
               have HO298:=n3_
               have BK271:=n4_
               have BK273:=n5_
               have BK275:=n6_
               have BK287:=n7_
               have HB:=n8_
               clear n0_ n1_ n2_ n3_ n4_ n5_ n6_ n7_ n8_
               (try clear hb)
               (try clear hb2)
               (try clear hk)
               (try clear hi)
               (try clear ho0)
               obtain ⟨Ao44,co44,eo44⟩:=Kd.R_slice HO_276004.out
               (first|subst eo44|(injection eo44 with f1_ f2_ f3_;have f4_:=f1_.symm;have f5_:=f3_.symm;clear f1_ f2_ f3_;subst f4_;subst f5_))
               obtain ⟨Ao45,co45,eo45⟩:=Kd.R_slice HO291.out
               (first|subst eo45|(injection eo45 with f1_ f2_ f3_;have f4_:=f1_.symm;have f5_:=f3_.symm;clear f1_ f2_ f3_;subst f4_;subst f5_))
               obtain ⟨Ao46,co46,eo46⟩:=Kd.R_slice HO295.out
               (first|subst eo46|(injection eo46 with f1_ f2_ f3_;have f4_:=f1_.symm;have f5_:=f3_.symm;clear f1_ f2_ f3_;subst f4_;subst f5_))
               obtain ⟨Ao47,co47,eo47⟩:=Kd.R_slice HO298.out
               (first|subst eo47|(injection eo47 with f1_ f2_ f3_;have f4_:=f1_.symm;have f5_:=f3_.symm;clear f1_ f2_ f3_;subst f4_;subst f5_))
               refine hK.out _ _ ⟨(blk_cell BK275.out 0).trans rfl,(blk_cell BK275.out 1).trans rfl,(blk_cell BK275.out 2).trans rfl,(blk_cell BK275.out 3).trans rfl,(blk_cell BK275.out 4).trans rfl,(blk_cell BK287.out 0).trans rfl,(blk_cell BK287.out 1).trans rfl,(blk_cell BK287.out 2).trans rfl⟩ (fun hHeld=>?_)
               clear hK K
               refine norm_ (a':=?_) ?_ ?_
               rotate_left
               ·show Act.put _ (some 71) _=_
                simp only [Act.put,List.setIfInBounds_toArray,List.set_cons_zero,List.set_cons_succ,i64_w,i32_w]
                rfl
               refine one_ (i:=21) (N:=some 72) #[true,true,true,true,true,true,true,true,true,true,true,true,true,true,true,true,true,true,true,true,true,true,false,false,false] rfl rfl (one_of HT_.out (by kernel_rfl)) (by decide) (fun K hK=>?_)
               refine Kd.N_lit_step (Kd.slice 9 Kd.string) _ 33 ?hg (N':=72) ?hd (xs:=([x276004_1,t289,t293,t296]:List (List ByteArray))) (inner:=[.slice Ao44 x276004_1.length co44,.slice Ao45 t289.length co45,.slice Ao46 t293.length co46,.slice Ao47 t296.length co47]) (ok:=(fun k_=>k_≠gb271∧k_≠gb273∧k_≠gb275∧k_≠gb287)) (okp:=(fun k_=>k_≠gb271∧k_≠gb273∧k_≠gb275∧k_≠gb287)) ?hr ?hp (fun _ hk=>hk) ((show ∀ k_,w43.heap.size≤k_→(fun k_=>k_≠gb271∧k_≠gb273∧k_≠gb275∧k_≠gb287) k_ from fun k_ hk=>⟨Kd.freshB (g:=gb271) (o:=.cells #[.int .i64 0,.int .i64 0,.int .i64 0,.int .i64 0,.slice none 0 0] 41 (0,0)) (by (with_reducible repeat (first|refine blk_drewN ?_ _|refine blk_drew ?_|refine blk_alloc ?_ _));exact BK271.out) k_ hk,Kd.freshB (g:=gb273) (o:=.cells #[.int .i64 ((rd_T72 l1 (ji5)).f0),.int .i64 ((rd_T72 l1 (ji5)).f1),.slice A272_2 ((rd_T72 l1 ji5).f2).length c272_2] 72 (0,0)) (by (with_reducible repeat (first|refine blk_drewN ?_ _|refine blk_drew ?_|refine blk_alloc ?_ _));exact BK273.out) k_ hk,Kd.freshB (g:=gb275) (o:=.cells #[.int .i64 ji9,.int .i64 0,.int .i64 (wrap64 ((ji9)+a3)),.int .i64 0,.slice Ao44 x276004_1.length co44] 41 (0,0)) (by (with_reducible repeat (first|refine blk_drewN ?_ _|refine blk_drew ?_|refine blk_alloc ?_ _));exact BK275.out) k_ hk,Kd.freshB (g:=gb287) (o:=.cells #[.int .i64 ((rd_T72 l1 x47_1).f0),.int .i64 ((rd_T72 l1 x47_1).f1),.slice A286_2 ((rd_T72 l1 x47_1).f2).length c286_2] 72 (0,0)) (by (with_reducible repeat (first|refine blk_drewN ?_ _|refine blk_drew ?_|refine blk_alloc ?_ _));exact BK287.out) k_ hk⟩) _ (Nat.le_refl _)) (Below.refl _ _) (Nat.le_refl _) (by simp) ?_;(case hd=>rfl);(case hg=>rfl);(case hr=>first|(go_simp;done)|(go_simp;rfl));(case hp=>exact (Reps.one (show Kd.FK (Kd.slice 9 Kd.string) _ _ x276004_1 [.slice Ao44 x276004_1.length co44] from (Kd.FK_slice_mk (Kd.R_reads' (Kd.R_mono (ok':=(fun k_=>k_≠gb271∧k_≠gb273∧k_≠gb275∧k_≠gb287)) (Kd.R_types (Kd.R_types (Kd.R_types (Kd.R_types (HO_276004.out) BK271.out (by decide)) BK273.out (by decide)) BK275.out (by decide)) BK287.out (by decide)) (fun k_ hk=>⟨hk.1.1.1.2,⟨hk.1.1.2,⟨hk.1.2,hk.2⟩⟩⟩))).2.1 (Kd.R_F (Kd.R_mono (ok':=(fun k_=>k_≠gb271∧k_≠gb273∧k_≠gb275∧k_≠gb287)) (Kd.R_types (Kd.R_types (Kd.R_types (Kd.R_types (HO_276004.out) BK271.out (by decide)) BK273.out (by decide)) BK275.out (by decide)) BK287.out (by decide)) (fun k_ hk=>⟨hk.1.1.1.2,⟨hk.1.1.2,⟨hk.1.2,hk.2⟩⟩⟩))))) (Reps.one (show Kd.FK (Kd.slice 9 Kd.string) _ _ t289 [.slice Ao45 t289.length co45] from (Kd.FK_slice_mk (Kd.R_reads' (Kd.R_mono (ok':=(fun k_=>k_≠gb271∧k_≠gb273∧k_≠gb275∧k_≠gb287)) (Kd.R_types (Kd.R_types (Kd.R_types (Kd.R_types (HO291.out) BK271.out (by decide)) BK273.out (by decide)) BK275.out (by decide)) BK287.out (by decide)) (fun k_ hk=>⟨hk.1.1.1.2,⟨hk.1.1.2,⟨hk.1.2,hk.2⟩⟩⟩))).2.1 (Kd.R_F (Kd.R_mono (ok':=(fun k_=>k_≠gb271∧k_≠gb273∧k_≠gb275∧k_≠gb287)) (Kd.R_types (Kd.R_types (Kd.R_types (Kd.R_types (HO291.out) BK271.out (by decide)) BK273.out (by decide)) BK275.out (by decide)) BK287.out (by decide)) (fun k_ hk=>⟨hk.1.1.1.2,⟨hk.1.1.2,⟨hk.1.2,hk.2⟩⟩⟩))))) (Reps.one (show Kd.FK (Kd.slice 9 Kd.string) _ _ t293 [.slice Ao46 t293.length co46] from (Kd.FK_slice_mk (Kd.R_reads' (Kd.R_mono (ok':=(fun k_=>k_≠gb271∧k_≠gb273∧k_≠gb275∧k_≠gb287)) (Kd.R_types (Kd.R_types (Kd.R_types (Kd.R_types (HO295.out) BK271.out (by decide)) BK273.out (by decide)) BK275.out (by decide)) BK287.out (by decide)) (fun k_ hk=>⟨hk.1.1.1.2,⟨hk.1.1.2,⟨hk.1.2,hk.2⟩⟩⟩))).2.1 (Kd.R_F (Kd.R_mono (ok':=(fun k_=>k_≠gb271∧k_≠gb273∧k_≠gb275∧k_≠gb287)) (Kd.R_types (Kd.R_types (Kd.R_types (Kd.R_types (HO295.out) BK271.out (by decide)) BK273.out (by decide)) BK275.out (by decide)) BK287.out (by decide)) (fun k_ hk=>⟨hk.1.1.1.2,⟨hk.1.1.2,⟨hk.1.2,hk.2⟩⟩⟩))))) (Reps.one (show Kd.FK (Kd.slice 9 Kd.string) _ _ t296 [.slice Ao47 t296.length co47] from (Kd.FK_slice_mk (Kd.R_reads' (Kd.R_mono (ok':=(fun k_=>k_≠gb271∧k_≠gb273∧k_≠gb275∧k_≠gb287)) (Kd.R_types (Kd.R_types (Kd.R_types (Kd.R_types (HO298.out) BK271.out (by decide)) BK273.out (by decide)) BK275.out (by decide)) BK287.out (by decide)) (fun k_ hk=>⟨hk.1.1.1.2,⟨hk.1.1.2,⟨hk.1.2,hk.2⟩⟩⟩))).2.1 (Kd.R_F (Kd.R_mono (ok':=(fun k_=>k_≠gb271∧k_≠gb273∧k_≠gb275∧k_≠gb287)) (Kd.R_types (Kd.R_types (Kd.R_types (Kd.R_types (HO298.out) BK271.out (by decide)) BK273.out (by decide)) BK275.out (by decide)) BK287.out (by decide)) (fun k_ hk=>⟨hk.1.1.1.2,⟨hk.1.1.2,⟨hk.1.2,hk.2⟩⟩⟩))))) (Reps.none _ _))))))
               intro v300 w48 ho49 hb hg_ hnew_
               clear hg_ hnew_
               (first|rw [← Ny299.out] at ho49|(simp only [Int.reduceToNat] at ho49;rw [← Ny299.out] at ho49))
               have n0_:=Aside0.mk (Kd.N_lower ho49 (below_size (by repeat (first|(with_reducible first|exact HB.out|apply below_alloc|apply pw_below_drewN|apply below_drew1|refine below_set ?_ GE271.out|refine below_set ?_ GE273.out|refine below_set ?_ GE275.out|refine below_set ?_ GE287.out)|exact HB.out))))
               have n1_:=Aside0.mk (blk_below (g:=gb271) (o:=.cells #[.int .i64 0,.int .i64 0,.int .i64 0,.int .i64 0,.slice none 0 0] 41 (0,0)) (by (with_reducible repeat (first|refine blk_drewN ?_ _|refine blk_drew ?_|refine blk_alloc ?_ _));exact BK271.out) hb)
               have n2_:=Aside0.mk (blk_below (g:=gb273) (o:=.cells #[.int .i64 ((rd_T72 l1 (ji5)).f0),.int .i64 ((rd_T72 l1 (ji5)).f1),.slice A272_2 ((rd_T72 l1 ji5).f2).length c272_2] 72 (0,0)) (by (with_reducible repeat (first|refine blk_drewN ?_ _|refine blk_drew ?_|refine blk_alloc ?_ _));exact BK273.out) hb)
               have n3_:=Aside0.mk (blk_below (g:=gb275) (o:=.cells #[.int .i64 ji9,.int .i64 0,.int .i64 (wrap64 ((ji9)+a3)),.int .i64 0,.slice Ao44 x276004_1.length co44] 41 (0,0)) (by (with_reducible repeat (first|refine blk_drewN ?_ _|refine blk_drew ?_|refine blk_alloc ?_ _));exact BK275.out) hb)
               have n4_:=Aside0.mk (blk_below (g:=gb287) (o:=.cells #[.int .i64 ((rd_T72 l1 x47_1).f0),.int .i64 ((rd_T72 l1 x47_1).f1),.slice A286_2 ((rd_T72 l1 x47_1).f2).length c286_2] 72 (0,0)) (by (with_reducible repeat (first|refine blk_drewN ?_ _|refine blk_drew ?_|refine blk_alloc ?_ _));exact BK287.out) hb)
               have n5_:=Aside0.mk (below_step (by repeat (first|(with_reducible first|exact HB.out|apply below_alloc|apply pw_below_drewN|apply below_drew1|refine below_set ?_ GE271.out|refine below_set ?_ GE273.out|refine below_set ?_ GE275.out|refine below_set ?_ GE287.out)|exact HB.out)) hb)
               clear BK271
               clear BK273
               clear BK275
               clear BK287
               clear HB
               clear HO291
               clear HO295
               clear HO298
               clear HO_276004
               have HO301:=n0_
               have BK271:=n1_
               have BK273:=n2_
               have BK275:=n3_
               have BK287:=n4_
               have HB:=n5_
               clear n0_ n1_ n2_ n3_ n4_ n5_
               clear hb ho49
               obtain ⟨Ao50,co50,eo50⟩:=Kd.N_slice HO301.out
               (first|subst eo50|(injection eo50 with f1_ f2_ f3_;have f4_:=f1_.symm;have f5_:=f3_.symm;clear f1_ f2_ f3_;subst f4_;subst f5_))
               refine hK.out _ _ ⟨(blk_cell BK275.out 0).trans rfl,(blk_cell BK275.out 1).trans rfl,(blk_cell BK275.out 2).trans rfl,(blk_cell BK275.out 3).trans rfl,(blk_cell BK275.out 4).trans rfl,(blk_cell BK287.out 0).trans rfl,(blk_cell BK287.out 1).trans rfl,(blk_cell BK287.out 2).trans rfl⟩ (fun hHeld=>?_)
               clear hK K
               refine norm_ (a':=?_) ?_ ?_
               rotate_left
               ·show Act.put _ (some 72) _=_
                simp only [Act.put,List.setIfInBounds_toArray,List.set_cons_zero,List.set_cons_succ,i64_w,i32_w]
                rfl
               refine one_ (i:=22) (N:=some 73) #[true,true,true,true,true,true,true,true,true,true,true,true,true,true,true,true,true,true,true,true,true,true,true,false,false] rfl rfl (one_of HT_.out (by kernel_rfl)) (by decide) (fun K hK=>?_)
               refine goes_ Tryd.func68 (by kernel_rfl) rfl #[.slice Ao50 y299.length co50] (by rfl) rfl rfl (by (try simp only [List.map_toArray,List.map_cons,List.map_nil]);first|done|rfl|(simp only [List.length_drop,List.length_take];rfl)) ?_
               with_reducible refine (slices_Concat_string_string.calls _ _ y299 t302 _ ?side1 ?side2 A31.out).mono ?_
               (case side1=>repeat (first|exact (Kd.N_reads' HO301.out).2.2|(with_reducible refine Kd.C_alloc ?_ _)|(with_reducible refine Kd.C_drewN ?_ _)|(with_reducible refine Kd.C_drew ?_)))
               (case side2=>exact (Kd.N_reads' HO301.out).2.1)
               rintro e w51 ⟨v303,rfl,ho0,hb⟩
               refine ⟨_,rfl,?_⟩
               have n0_:=Aside0.mk (Kd.N_elder' (by (with_reducible repeat (first|apply Kd.N_alloc|apply Kd.N_drewN|apply Kd.N_drew));exact HO301.out) (Kd.R_base ho0) hb)
               have n1_:=Aside0.mk (Kd.R_lower ho0 (below_size (by repeat (first|(with_reducible first|exact HB.out|apply below_alloc|apply pw_below_drewN|apply below_drew1|refine below_set ?_ GE271.out|refine below_set ?_ GE273.out|refine below_set ?_ GE275.out|refine below_set ?_ GE287.out)|exact HB.out))))
               have n2_:=Aside0.mk (blk_below (g:=gb271) (o:=.cells #[.int .i64 0,.int .i64 0,.int .i64 0,.int .i64 0,.slice none 0 0] 41 (0,0)) (by (with_reducible repeat (first|refine blk_drewN ?_ _|refine blk_drew ?_|refine blk_alloc ?_ _));exact BK271.out) hb)
               have n3_:=Aside0.mk (blk_below (g:=gb273) (o:=.cells #[.int .i64 ((rd_T72 l1 (ji5)).f0),.int .i64 ((rd_T72 l1 (ji5)).f1),.slice A272_2 ((rd_T72 l1 ji5).f2).length c272_2] 72 (0,0)) (by (with_reducible repeat (first|refine blk_drewN ?_ _|refine blk_drew ?_|refine blk_alloc ?_ _));exact BK273.out) hb)
               have n4_:=Aside0.mk (blk_below (g:=gb275) (o:=.cells #[.int .i64 ji9,.int .i64 0,.int .i64 (wrap64 ((ji9)+a3)),.int .i64 0,.slice Ao44 x276004_1.length co44] 41 (0,0)) (by (with_reducible repeat (first|refine blk_drewN ?_ _|refine blk_drew ?_|refine blk_alloc ?_ _));exact BK275.out) hb)
               have n5_:=Aside0.mk (blk_below (g:=gb287) (o:=.cells #[.int .i64 ((rd_T72 l1 x47_1).f0),.int .i64 ((rd_T72 l1 x47_1).f1),.slice A286_2 ((rd_T72 l1 x47_1).f2).length c286_2] 72 (0,0)) (by (with_reducible repeat (first|refine blk_drewN ?_ _|refine blk_drew ?_|refine blk_alloc ?_ _));exact BK287.out) hb)
               have n6_:=Aside0.mk (below_step (by repeat (first|(with_reducible first|exact HB.out|apply below_alloc|apply pw_below_drewN|apply below_drew1|refine below_set ?_ GE271.out|refine below_set ?_ GE273.out|refine below_set ?_ GE275.out|refine below_set ?_ GE287.out)|exact HB.out)) hb)
               clear HO301
               clear BK271
               clear BK273
               clear BK275
               clear BK287
               clear HB
               have HO301:=n0_
               have HO304:=n1_
               have BK271:=n2_
               have BK273:=n3_
               have BK275:=n4_
               have BK287:=n5_
               have HB:=n6_
               clear n0_ n1_ n2_ n3_ n4_ n5_ n6_
               (try clear hb)
               (try clear hb2)
               (try clear hk)
               (try clear hi)
               (try clear ho0)
               obtain ⟨Ao52,co52,eo52⟩:=Kd.R_slice HO304.out
               (first|subst eo52|(injection eo52 with f1_ f2_ f3_;have f4_:=f1_.symm;have f5_:=f3_.symm;clear f1_ f2_ f3_;subst f4_;subst f5_))
               refine hK.out _ _ ⟨(blk_cell BK275.out 0).trans rfl,(blk_cell BK275.out 1).trans rfl,(blk_cell BK275.out 2).trans rfl,(blk_cell BK275.out 3).trans rfl,(blk_cell BK275.out 4).trans rfl,(blk_cell BK287.out 0).trans rfl,(blk_cell BK287.out 1).trans rfl,(blk_cell BK287.out 2).trans rfl⟩ (fun hHeld=>?_)
               clear hK K
               refine norm_ (a':=?_) ?_ ?_
               rotate_left
               ·show Act.put _ (some 73) _=_
                simp only [Act.put,List.setIfInBounds_toArray,List.set_cons_zero,List.set_cons_succ,i64_w,i32_w]
                rfl
               refine pure_ (i:=23) (N:=some 74) (v:=?_) (a':=?_) #[true,true,true,true,true,true,true,true,true,true,true,true,true,true,true,true,true,true,true,true,true,true,true,true,false] rfl rfl (any_of HT_.out (by kernel_rfl)) (fun _ _ _ h=>h) (Or.inl ⟨by rfl,?_⟩) ?_ ?_
               rotate_left
               ·intro w'
                go_simp
                with_reducible rfl
               rotate_left
               ·simp only [Act.put,List.setIfInBounds_toArray,List.set_cons_zero,List.set_cons_succ,i64_w,i32_w]
                rfl
               refine last_ (i:=24) (N:=none) #[true,true,true,true,true,true,true,true,true,true,true,true,true,true,true,true,true,true,true,true,true,true,true,true,true] rfl rfl (one_of HT_.out (by kernel_rfl)) (by decide) (fun K hK=>?_)
               have hs53:w51.cell? ⟨gb275,4,none⟩=some (.slice Ao44 x276004_1.length co44):=(blk_cell BK275.out 4).trans rfl
               have hfs53:=blk_frozen BK275.out 4
               have hns53_0:=NB271_275.out
               have hns53_1:=NB273_275.out
               have hns53_3:=NB287_275.out
               have hms53_0:=NB275_271.out
               have hms53_1:=NB275_273.out
               have hms53_3:=NB275_287.out
               refine skip_ (w1:=?_) (by rfl) rfl ?_ ?_
               rotate_left
               ·go_simp
                rfl
               refine hK.out _ _ ?_
               clear hK K
               refine done_ (done_of HT_.out (by kernel_rfl)) ?_
               have hcz54_0:w51.cell? ⟨gb287,0,none⟩=some (.int .i64 ((rd_T72 l1 x47_1).f0)):=(blk_cell BK287.out 0).trans rfl
               have hcz54_1:w51.cell? ⟨gb287,1,none⟩=some (.int .i64 ((rd_T72 l1 x47_1).f1)):=(blk_cell BK287.out 1).trans rfl
               have hcz54_2:w51.cell? ⟨gb287,2,none⟩=some (.slice A286_2 ((rd_T72 l1 x47_1).f2).length c286_2):=(blk_cell BK287.out 2).trans rfl
               have hfz54_0:=blk_frozen BK287.out 0
               have hfz54_1:=blk_frozen BK287.out 1
               have hfz54_2:=blk_frozen BK287.out 2
               try go_wp2
               go_roundg k1
               case measure=>have:=HK1.out;omega
               case rel=>exact ⟨(wrap64 (((rd_T72 l1 x47_1).f0)+((rd_T72 l1 x47_1).f1))),(wrap64 (x47_1+1)),(t302),(.slice Ao52 t302.length co52),(by first|rfl|(simp;done)|(simp [*];done)),(by first|rfl|(simp;done)|(simp [*];done)),H',⟨by have:=HK1.out;omega⟩,⟨by (with_reducible repeat (first|apply Kd.R_alloc|apply Kd.R_drewN|apply Kd.R_drew));exact Kd.R_mono (Kd.R_far (p:=⟨gb275,4,none⟩) (Kd.R_types HO304.out BK275.out (by decide)) (fun _ hk=>hk.2) (.slice Ao52 t302.length co52)) (fun _ hk=>trivial)⟩,⟨by (with_reducible repeat (first|refine blk_drewN ?_ _|refine blk_drew ?_|refine blk_alloc ?_ _));refine blk_far ?_ NB271_275.out _;(with_reducible repeat (first|refine blk_drewN ?_ _|refine blk_drew ?_|refine blk_alloc ?_ _));exact BK271.out⟩,⟨by (with_reducible repeat (first|refine blk_drewN ?_ _|refine blk_drew ?_|refine blk_alloc ?_ _));refine blk_far ?_ NB273_275.out _;(with_reducible repeat (first|refine blk_drewN ?_ _|refine blk_drew ?_|refine blk_alloc ?_ _));exact BK273.out⟩,⟨by (with_reducible repeat (first|refine blk_drewN ?_ _|refine blk_drew ?_|refine blk_alloc ?_ _));refine blk_put (cs:=#[.int .i64 ji9,.int .i64 0,.int .i64 (wrap64 ((ji9)+a3)),.int .i64 0,.slice Ao44 x276004_1.length co44]) ?_ 4 _ rfl;(with_reducible repeat (first|refine blk_drewN ?_ _|refine blk_drew ?_|refine blk_alloc ?_ _));exact BK275.out⟩,⟨by repeat (first|(with_reducible first|exact HB.out|apply below_alloc|apply pw_below_drewN|apply below_drew1|refine below_set ?_ GE271.out|refine below_set ?_ GE273.out|refine below_set ?_ GE275.out|refine below_set ?_ GE287.out)|exact HB.out)⟩⟩
              ·rw [if_neg c28] at H
               exact absurd H (by simp)
             ·rw [if_neg c27] at H
              exact absurd H (by simp)
            ·rw [if_neg c26] at H
             exact absurd H (by simp)
           ·rw [if_neg c24] at H
            exact absurd H (by simp)
          ·rw [if_neg c23] at H
           exact absurd H (by simp)
         ·rw [if_neg c22] at H
          exact absurd H (by simp)
        ·rw [if_neg c21] at H
         exact absurd H (by simp)
       ·rw [if_neg c20] at H
        exact absurd H (by simp)
      ·rw [if_neg c19] at H
       have c19b0:decide (x47_1<(l1.length:Int))=false:=decide_eq_false c19
       clear c19
       by_cases c55:0≤x13_1
       ·rw [if_pos c55] at H
        have c55b0:=eq_true c55
        have c55b1:decide (0≤x13_1)=true:=decide_eq_true c55
        clear c55
        by_cases c56:x13_1≤ji10
        ·rw [if_pos c56] at H
         have c56b0:=eq_true c56
         have c56b1:decide (x13_1≤ji10)=true:=decide_eq_true c56
         clear c56
         by_cases c57:ji10≤(l0.length:Int)
         ·rw [if_pos c57] at H
          have c57b0:=eq_true c57
          have c57b1:decide (ji10≤(l0.length:Int))=true:=decide_eq_true c57
          clear c57
          replace H:=Option.bind_eq_some_iff.mp H
          obtain ⟨t277,A580,H⟩:=H
          replace H:(if x276004_1.length+t277.length<8796093022208 then ((some (x276004_1++t277:List ByteArray)).bind fun y280=>((hunk_count.f k1 y280).bind fun bt283=>(some (ji9,bt283.1,(wrap64 ((ji9)+a3)),bt283.2.1,y280)))) else (none))=some (r1,r2,r3,r4,r5):=H
          have A58:=Aside0.mk A580
          clear A580
          by_cases c59:x276004_1.length+t277.length<8796093022208
          ·rw [if_pos c59] at H
           have LMc59:=Aside0.mk c59
           clear c59
           obtain ⟨y280,hy280⟩:∃ y_:List ByteArray,y_=(x276004_1++t277):=⟨_,rfl⟩
           replace H:((hunk_count.f k1 y280).bind fun bt283=>(some (ji9,bt283.1,(wrap64 ((ji9)+a3)),bt283.2.1,y280)))=some (r1,r2,r3,r4,r5):=by first|(rw [hy280];with_reducible exact H)|(have H2_:=(Option.bind_some _ _).symm.trans H;rw [hy280];with_reducible exact H2_)|(have H2_:=(Option.bind_some _ _).symm.trans H;with_reducible exact H2_)|with_reducible exact H|(rw [hy280];exact H)|exact H
           have Ny280:=Aside0.mk hy280
           clear hy280
           replace H:=Option.bind_eq_some_iff.mp H
           obtain ⟨⟨t283,t284,t285⟩,A600,H⟩:=H
           replace H:(some (ji9,t283,(wrap64 ((ji9)+a3)),t284,y280))=some (r1,r2,r3,r4,r5):=H
           have A60:=Aside0.mk A600
           clear A600
           simp only [Option.some.injEq,Prod.mk.injEq] at H
           obtain ⟨rfl,rfl,rfl,rfl,rfl⟩:=H
           try go_wp2
           have n0_:=Aside0.mk (Kd.R_drew HO_276004.out)
           have n1_:=Aside0.mk (blk_drew BK271.out)
           have n2_:=Aside0.mk (blk_drew BK273.out)
           have n3_:=Aside0.mk (blk_drew BK275.out)
           have n4_:=Aside0.mk (below_drew1 HB.out)
           clear HO_276004
           clear BK271
           clear BK273
           clear BK275
           clear HB
           have HO_276004:=n0_
           have BK271:=n1_
           have BK273:=n2_
           have BK275:=n3_
           have HB:=n4_
           clear n0_ n1_ n2_ n3_ n4_
           obtain ⟨i062,hi062,_,hsz62,_⟩:=info_parts info9
           obtain ⟨A62,hcut62,hA62,hC62⟩:=print_mid_of (P:=Tryd.prog) Value.string (⟨#[]⟩:ByteArray) 33 9 .i64 .i64 Tryd.underlying33 hi062 hsz62 A0 c0 l0 x13_1 ji10 (of_decide_eq_true (by first|(with_reducible assumption)|assumption)) (by first|omega|exact of_decide_eq_true (by first|(with_reducible assumption)|assumption)) (of_decide_eq_true (by first|(with_reducible assumption)|assumption)) HC0.out
           have HR276:=Aside0.mk (Kd.C_of_reads (h1:=fun _=>rfl) (hA62 _ (Kd.reads_of_C HR0.out)))
           have HC276:=Aside0.mk hC62
           clear hA62 hC62 hi062 hsz62
           refine start_ (n:=10) (S:=fun w'=>w'.cell? ⟨gb275,0,none⟩=some (.int .i64 ji9)∧w'.cell? ⟨gb275,1,none⟩=some (.int .i64 0)∧w'.cell? ⟨gb275,2,none⟩=some (.int .i64 (wrap64 ((ji9)+a3)))∧w'.cell? ⟨gb275,3,none⟩=some (.int .i64 0)∧w'.cell? ⟨gb275,4,none⟩=some (u276004)) (ds:=[9]) #[false,false,false,false,false,false,false,false,false,false] (by kernel_rfl) rfl rfl ⟨(blk_cell BK275.out 0).trans rfl,(blk_cell BK275.out 1).trans rfl,(blk_cell BK275.out 2).trans rfl,(blk_cell BK275.out 3).trans rfl,(blk_cell BK275.out 4).trans rfl⟩ (fun hHeld=>?_);refine with_tabW hunk_group.tab12 hunk_group.bits12 (fun HT_ HW_=>?_)
           generalize wr.drew=w61 at HO_276004 BK271 BK273 BK275 HB HR276 hHeld ⊢
           refine pure_ (i:=0) (N:=some 81) (v:=?_) (a':=?_) #[true,false,false,false,false,false,false,false,false,false] rfl rfl (any_of HT_.out (by kernel_rfl)) (fun _ _ _ h=>h) (Or.inl ⟨by rfl,?_⟩) ?_ ?_
           rotate_left
           ·intro w'
            go_simp
            with_reducible rfl
           rotate_left
           ·simp only [Act.put,List.setIfInBounds_toArray,List.set_cons_zero,List.set_cons_succ,i64_w,i32_w]
            rfl
           refine pure_ (i:=2) (N:=some 83) (v:=?_) (a':=?_) #[true,false,true,false,false,false,false,false,false,false] rfl rfl (any_of HT_.out (by kernel_rfl)) (fun _ _ _ h=>h) (Or.inl ⟨by rfl,?_⟩) ?_ ?_
           rotate_left
           ·intro w'
            go_simp
            with_reducible rfl
           rotate_left
           ·simp only [Act.put,List.setIfInBounds_toArray,List.set_cons_zero,List.set_cons_succ,i64_w,i32_w]
            rfl
           refine pure_ (i:=3) (N:=some 84) (v:=?_) (a':=?_) #[true,false,true,true,false,false,false,false,false,false] rfl rfl (any_of HT_.out (by kernel_rfl)) (fun _ _ _ h=>h) (Or.inl ⟨by rfl,?_⟩) ?_ ?_
           rotate_left
           ·intro w'
            go_simp
            with_reducible rfl
           rotate_left
           ·simp only [Act.put,List.setIfInBounds_toArray,List.set_cons_zero,List.set_cons_succ,i64_w,i32_w]
            rfl
           refine pure_ (i:=4) (N:=some 85) (v:=?_) (a':=?_) #[true,false,true,true,true,false,false,false,false,false] rfl rfl (any_of HT_.out (by kernel_rfl)) (fun _ _ _ h=>h) (Or.inl ⟨by rfl,?_⟩) ?_ ?_
           rotate_left
           ·intro w'
            go_simp
            with_reducible rfl
           rotate_left
           ·simp only [Act.put,List.setIfInBounds_toArray,List.set_cons_zero,List.set_cons_succ,i64_w,i32_w]
            rfl
           refine pure_ (i:=5) (N:=some 86) (v:=?_) (a':=?_) #[true,false,true,true,true,true,false,false,false,false] rfl rfl (any_of HT_.out (by kernel_rfl)) (fun _ _ _ h=>h) (Or.inl ⟨by rfl,?_⟩) ?_ ?_
           rotate_left
           ·intro w'
            go_simp
            with_reducible rfl
           rotate_left
           ·simp only [Act.put,List.setIfInBounds_toArray,List.set_cons_zero,List.set_cons_succ,i64_w,i32_w]
            rfl
           refine take_ (i:=1) (N:=some 82) (v:=?_) (a':=?_) #[true,true,true,true,true,true,false,false,false,false] rfl rfl (take_ofW HT_.out HW_.out (by kernel_rfl)) (fun _ _ _ h=>h) (Or.inl ⟨by rfl,?_⟩) hHeld ?_ ?_
           rotate_left
           ·rintro w' ⟨s0,s1,s2,s3,s4⟩
            go_simp
            with_reducible rfl
           rotate_left
           ·simp only [Act.put,List.setIfInBounds_toArray,List.set_cons_zero,List.set_cons_succ,i64_w,i32_w]
            rfl
           refine one_ (i:=6) (N:=some 87) #[true,true,true,true,true,true,true,false,false,false] rfl rfl (one_of HT_.out (by kernel_rfl)) (by decide) (fun K hK=>?_)
           refine goes_ Tryd.func69 (by kernel_rfl) rfl #[.int .u8 32,.slice A62 ((l0.take (ji10:Int).toNat).drop (x13_1:Int).toNat).length (c0 - x13_1.toNat)] (by rfl) rfl rfl (by (try simp only [List.map_toArray,List.map_cons,List.map_nil]);first|done|(rw [show ((l0.take (ji10:Int).toNat).drop (x13_1:Int).toNat).length=(ji10.toNat - x13_1.toNat) from (by rw [List.length_drop,List.length_take];have h_:(ji10:Int)≤(l0.length:Int):=of_decide_eq_true (by first|(with_reducible assumption)|assumption);omega)]<;>rfl)|(simp only [hji10];rfl)|rfl|(simp only [List.length_drop,List.length_take];rfl)) ?_
           with_reducible refine (hunk_signed.calls k1 32 _ _ ((l0.take (ji10:Int).toNat).drop (x13_1:Int).toNat) t277 _ ?side1 ?side2 A58.out).mono ?_
           (case side1=>repeat (first|exact (Kd.C_below HR276.out HB.out)|(with_reducible refine Kd.C_alloc ?_ _)|(with_reducible refine Kd.C_drewN ?_ _)|(with_reducible refine Kd.C_drew ?_)))
           (case side2=>exact HC276.out)
           rintro e w63 ⟨v278,rfl,ho0,hb⟩
           refine ⟨_,rfl,?_⟩
           have n0_:=Aside0.mk (Kd.R_elder' (by (with_reducible repeat (first|apply Kd.R_alloc|apply Kd.R_drewN|apply Kd.R_drew));exact HO_276004.out) (Kd.R_base ho0) hb)
           have n1_:=Aside0.mk (Kd.R_lower (Kd.R_new' ho0 (Kd.R_lt (by (with_reducible repeat (first|apply Kd.R_alloc|apply Kd.R_drewN|apply Kd.R_drew));exact HO_276004.out))) (below_size (by repeat (first|(with_reducible first|exact HB.out|apply below_alloc|apply pw_below_drewN|apply below_drew1|refine below_set ?_ GE271.out|refine below_set ?_ GE273.out|refine below_set ?_ GE275.out)|exact HB.out))))
           have n2_:=Aside0.mk (blk_below (g:=gb271) (o:=.cells #[.int .i64 0,.int .i64 0,.int .i64 0,.int .i64 0,.slice none 0 0] 41 (0,0)) (by (with_reducible repeat (first|refine blk_drewN ?_ _|refine blk_drew ?_|refine blk_alloc ?_ _));exact BK271.out) hb)
           have n3_:=Aside0.mk (blk_below (g:=gb273) (o:=.cells #[.int .i64 ((rd_T72 l1 (ji5)).f0),.int .i64 ((rd_T72 l1 (ji5)).f1),.slice A272_2 ((rd_T72 l1 ji5).f2).length c272_2] 72 (0,0)) (by (with_reducible repeat (first|refine blk_drewN ?_ _|refine blk_drew ?_|refine blk_alloc ?_ _));exact BK273.out) hb)
           have n4_:=Aside0.mk (blk_below (g:=gb275) (o:=.cells #[.int .i64 ji9,.int .i64 0,.int .i64 (wrap64 ((ji9)+a3)),.int .i64 0,u276004] 41 (0,0)) (by (with_reducible repeat (first|refine blk_drewN ?_ _|refine blk_drew ?_|refine blk_alloc ?_ _));exact BK275.out) hb)
           have n5_:=Aside0.mk (below_step (by repeat (first|(with_reducible first|exact HB.out|apply below_alloc|apply pw_below_drewN|apply below_drew1|refine below_set ?_ GE271.out|refine below_set ?_ GE273.out|refine below_set ?_ GE275.out)|exact HB.out)) hb)
           clear HO_276004
           clear BK271
           clear BK273
           clear BK275
           clear HB
           have HO_276004:=n0_
           have HO279:=n1_
           have BK271:=n2_
           have BK273:=n3_
           have BK275:=n4_
           have HB:=n5_
           clear n0_ n1_ n2_ n3_ n4_ n5_
           (try clear hb)
           (try clear hb2)
           (try clear hk)
           (try clear hi)
           (try clear ho0)
           obtain ⟨Ao65,co65,eo65⟩:=Kd.R_slice HO279.out
           (first|subst eo65|(injection eo65 with f1_ f2_ f3_;have f4_:=f1_.symm;have f5_:=f3_.symm;clear f1_ f2_ f3_;subst f4_;subst f5_))
           refine hK.out _ _ ⟨(blk_cell BK275.out 0).trans rfl,(blk_cell BK275.out 1).trans rfl,(blk_cell BK275.out 2).trans rfl,(blk_cell BK275.out 3).trans rfl,(blk_cell BK275.out 4).trans rfl⟩ (fun hHeld=>?_)
           clear hK K
           refine norm_ (a':=?_) ?_ ?_
           rotate_left
           ·show Act.put _ (some 87) _=_
            simp only [Act.put,List.setIfInBounds_toArray,List.set_cons_zero,List.set_cons_succ,i64_w,i32_w]
            rfl
           refine one_ (i:=7) (N:=some 88) #[true,true,true,true,true,true,true,true,false,false] rfl rfl (one_of HT_.out (by kernel_rfl)) (by decide) (fun K hK=>?_)
           refine Kd.R_append_rows_step Kd.string (w0:=w) w.heap.size (by rfl) (.tmp 82) (.tmp 87) 33 9 (.string ⟨#[]⟩) 16 rfl Tryd.underlying33 info9 rfl (by decide) (by omega) u276004 x276004_1 t277 _ _ _ (fun k_=>some k_≠(.slice Ao65 t277.length co65:Value).ownBlock) (fun _=>False) rfl rfl ?aO ?aR (fun _ _ h=>h) (fun _ h=>h.elim) ?aF ?aB ?aS ?aL ?_
           (case aR=>repeat (first|exact (Kd.R_reads' HO279.out).2.2|(with_reducible refine Kd.C_alloc ?_ _)|(with_reducible refine Kd.C_drewN ?_ _)|(with_reducible refine Kd.C_drew ?_)))
           (case aB=>exact (by repeat (first|(with_reducible first|exact HB.out|apply below_alloc|apply pw_below_drewN|apply below_drew1|refine below_set ?_ GE271.out|refine below_set ?_ GE273.out|refine below_set ?_ GE275.out)|exact HB.out)))
           (case aF=>exact (fun k_ hk=>Kd.fresh' (Kd.R_lt (by (with_reducible repeat (first|apply Kd.R_alloc|apply Kd.R_drewN|apply Kd.R_drew));exact HO279.out)) k_ hk))
           (case aO=>exact (by (with_reducible repeat (first|apply Kd.R_alloc|apply Kd.R_drewN|apply Kd.R_drew));exact Kd.R_mono HO_276004.out (fun _ hk=>hk.2)))
           (case aS=>exact (below_size (by repeat (first|(with_reducible first|exact HB.out|apply below_alloc|apply pw_below_drewN|apply below_drew1|refine below_set ?_ GE271.out|refine below_set ?_ GE273.out|refine below_set ?_ GE275.out)|exact HB.out))))
           (case aL=>have:=LMc59.out;omega)
           intro v281 w64 ho hb hg hat
           rw [← Ny280.out] at ho
           have n0_:=Aside0.mk (blk_grown (g:=gb271) (o:=.cells #[.int .i64 0,.int .i64 0,.int .i64 0,.int .i64 0,.slice none 0 0] 41 (0,0)) (by (with_reducible repeat (first|refine blk_drewN ?_ _|refine blk_drew ?_|refine blk_alloc ?_ _));exact BK271.out) hg (Kd.R_ne HO_276004.out BK271.out (by decide)))
           have n1_:=Aside0.mk (blk_grown (g:=gb273) (o:=.cells #[.int .i64 ((rd_T72 l1 (ji5)).f0),.int .i64 ((rd_T72 l1 (ji5)).f1),.slice A272_2 ((rd_T72 l1 ji5).f2).length c272_2] 72 (0,0)) (by (with_reducible repeat (first|refine blk_drewN ?_ _|refine blk_drew ?_|refine blk_alloc ?_ _));exact BK273.out) hg (Kd.R_ne HO_276004.out BK273.out (by decide)))
           have n2_:=Aside0.mk (blk_grown (g:=gb275) (o:=.cells #[.int .i64 ji9,.int .i64 0,.int .i64 (wrap64 ((ji9)+a3)),.int .i64 0,u276004] 41 (0,0)) (by (with_reducible repeat (first|refine blk_drewN ?_ _|refine blk_drew ?_|refine blk_alloc ?_ _));exact BK275.out) hg (Kd.R_ne HO_276004.out BK275.out (by decide)))
           have n3_:=Aside0.mk (Kd.R_after (ok:=(fun _=>True)) (by (with_reducible repeat (first|apply Kd.R_alloc|apply Kd.R_drewN|apply Kd.R_drew));exact HO279.out) hg hat)
           have n4_:=Aside0.mk (hb)
           have n5_:=Aside0.mk (ho)
           clear BK271
           clear BK273
           clear BK275
           clear HO279
           clear HB
           clear HO_276004
           have BK271:=n0_
           have BK273:=n1_
           have BK275:=n2_
           have HO279:=n3_
           have HB:=n4_
           have HO282:=n5_
           clear n0_ n1_ n2_ n3_ n4_ n5_
           clear ho hb hg hat
           obtain ⟨Ao66,co66,eo66⟩:=Kd.R_slice HO282.out
           (first|subst eo66|(injection eo66 with f1_ f2_ f3_;have f4_:=f1_.symm;have f5_:=f3_.symm;clear f1_ f2_ f3_;subst f4_;subst f5_))
           refine hK.out _ _ ⟨(blk_cell BK275.out 0).trans rfl,(blk_cell BK275.out 1).trans rfl,(blk_cell BK275.out 2).trans rfl,(blk_cell BK275.out 3).trans rfl,(blk_cell BK275.out 4).trans rfl⟩ (fun hHeld=>?_)
           clear hK K
           refine norm_ (a':=?_) ?_ ?_
           rotate_left
           ·show Act.put _ (some 88) _=_
            simp only [Act.put,List.setIfInBounds_toArray,List.set_cons_zero,List.set_cons_succ,i64_w,i32_w]
            rfl
           refine pure_ (i:=8) (N:=some 89) (v:=?_) (a':=?_) #[true,true,true,true,true,true,true,true,true,false] rfl rfl (any_of HT_.out (by kernel_rfl)) (fun _ _ _ h=>h) (Or.inl ⟨by rfl,?_⟩) ?_ ?_
           rotate_left
           ·intro w'
            go_simp
            with_reducible rfl
           rotate_left
           ·simp only [Act.put,List.setIfInBounds_toArray,List.set_cons_zero,List.set_cons_succ,i64_w,i32_w]
            rfl
           refine last_ (i:=9) (N:=none) #[true,true,true,true,true,true,true,true,true,true] rfl rfl (one_of HT_.out (by kernel_rfl)) (by decide) (fun K hK=>?_)
           have hs67:w64.cell? ⟨gb275,4,none⟩=some (u276004):=(blk_cell BK275.out 4).trans rfl
           have hfs67:=blk_frozen BK275.out 4
           have hns67_0:=NB271_275.out
           have hns67_1:=NB273_275.out
           have hms67_0:=NB275_271.out
           have hms67_1:=NB275_273.out
           refine skip_ (w1:=?_) (by rfl) rfl ?_ ?_
           rotate_left
           ·go_simp
            rfl
           refine hK.out _ _ ?_
           clear hK K
           refine done_ (done_of HT_.out (by kernel_rfl)) ?_
           have hnb68:=NB275_271.out
           have hnc68:=NB271_275.out
           have hnb69:=NB275_273.out
           have hnc69:=NB273_275.out
           have hcz70_0:w64.cell? ⟨gb275,0,none⟩=some (.int .i64 ji9):=(blk_cell BK275.out 0).trans rfl
           have hcz70_1:w64.cell? ⟨gb275,1,none⟩=some (.int .i64 0):=(blk_cell BK275.out 1).trans rfl
           have hcz70_2:w64.cell? ⟨gb275,2,none⟩=some (.int .i64 (wrap64 ((ji9)+a3))):=(blk_cell BK275.out 2).trans rfl
           have hcz70_3:w64.cell? ⟨gb275,3,none⟩=some (.int .i64 0):=(blk_cell BK275.out 3).trans rfl
           have hcz70_4:w64.cell? ⟨gb275,4,none⟩=some (u276004):=(blk_cell BK275.out 4).trans rfl
           have hfz70_0:=blk_frozen BK275.out 0
           have hfz70_1:=blk_frozen BK275.out 1
           have hfz70_2:=blk_frozen BK275.out 2
           have hfz70_3:=blk_frozen BK275.out 3
           have hfz70_4:=blk_frozen BK275.out 4
           try go_wp2_with (first|((with_reducible refine gate_callee (f:=70) rfl ?_);refine goesL_ (some 93) rfl rfl Tryd.func70 (by kernel_rfl) rfl #[.slice Ao66 y280.length co66] rfl (by (try simp only [List.map_toArray,List.map_cons,List.map_nil]);first|done|rfl|(simp only [List.length_drop,List.length_take];rfl)) ?_;(with_reducible refine (hunk_count.calls k1 _ _ y280 t283 t284 t285 _ ?side1 ?side2 A60.out).mono ?_);(case side1=>refine (Kd.R_reads' (e:=9) (base:=w.heap.size) (ok:=fun k_=>some k_≠(.slice Ao65 t277.length co65:Value).ownBlock) (n:=y280.length) (c:=co66) ?_).2.2;exact (by (with_reducible repeat (first|apply Kd.R_alloc|apply Kd.R_drewN|apply Kd.R_drew));exact (Kd.R_mono (Kd.R_far (p:=⟨gb275,4,none⟩) (Kd.R_types HO282.out BK275.out (by decide)) (fun _ hk=>hk.2) (.slice Ao66 y280.length co66)) (fun _ h_=>h_.1))));(case side2=>exact (Kd.R_reads' HO282.out).2.1);rintro e w' ⟨rfl,⟨nd,rfl⟩⟩;refine ⟨_,rfl,?_⟩;have hnb71:=NB271_273.out;have hnc71:=NB273_271.out;have hcz72_0:w64.cell? ⟨gb271,0,none⟩=some (.int .i64 0):=(blk_cell BK271.out 0).trans rfl;have hcz72_1:w64.cell? ⟨gb271,1,none⟩=some (.int .i64 0):=(blk_cell BK271.out 1).trans rfl;have hcz72_2:w64.cell? ⟨gb271,2,none⟩=some (.int .i64 0):=(blk_cell BK271.out 2).trans rfl;have hcz72_3:w64.cell? ⟨gb271,3,none⟩=some (.int .i64 0):=(blk_cell BK271.out 3).trans rfl;have hcz72_4:w64.cell? ⟨gb271,4,none⟩=some (.slice none 0 0):=(blk_cell BK271.out 4).trans rfl;have hfz72_0:=blk_frozen BK271.out 0;have hfz72_1:=blk_frozen BK271.out 1;have hfz72_2:=blk_frozen BK271.out 2;have hfz72_3:=blk_frozen BK271.out 3;have hfz72_4:=blk_frozen BK271.out 4))
           refine bodyPost_ret (results_cell_row rfl _ _ gb271 41 #[.int .i64 ji9,.int .i64 t283,.int .i64 (wrap64 ((ji9)+a3)),.int .i64 t284,.slice Ao66 y280.length co66] (0,0) _ rfl (by (with_reducible repeat (first|refine blk_drewN ?_ _|refine blk_drew ?_|refine blk_alloc ?_ _));refine blk_put (cs:=#[.int .i64 ji9,.int .i64 t283,.int .i64 (wrap64 ((ji9)+a3)),.int .i64 t284,.slice none 0 0]) ?_ 4 _ rfl;(with_reducible repeat (first|refine blk_drewN ?_ _|refine blk_drew ?_|refine blk_alloc ?_ _));refine blk_put (cs:=#[.int .i64 ji9,.int .i64 t283,.int .i64 (wrap64 ((ji9)+a3)),.int .i64 0,.slice none 0 0]) ?_ 3 _ rfl;(with_reducible repeat (first|refine blk_drewN ?_ _|refine blk_drew ?_|refine blk_alloc ?_ _));refine blk_put (cs:=#[.int .i64 ji9,.int .i64 t283,.int .i64 0,.int .i64 0,.slice none 0 0]) ?_ 2 _ rfl;(with_reducible repeat (first|refine blk_drewN ?_ _|refine blk_drew ?_|refine blk_alloc ?_ _));refine blk_put (cs:=#[.int .i64 ji9,.int .i64 0,.int .i64 0,.int .i64 0,.slice none 0 0]) ?_ 1 _ rfl;(with_reducible repeat (first|refine blk_drewN ?_ _|refine blk_drew ?_|refine blk_alloc ?_ _));refine blk_put (cs:=#[.int .i64 0,.int .i64 0,.int .i64 0,.int .i64 0,.slice none 0 0]) ?_ 0 _ rfl;(with_reducible repeat (first|refine blk_drewN ?_ _|refine blk_drew ?_|refine blk_alloc ?_ _));refine blk_far ?_ NB271_275.out _;(with_reducible repeat (first|refine blk_drewN ?_ _|refine blk_drew ?_|refine blk_alloc ?_ _));refine blk_far ?_ NB271_275.out _;(with_reducible repeat (first|refine blk_drewN ?_ _|refine blk_drew ?_|refine blk_alloc ?_ _));refine blk_far ?_ NB271_275.out _;(with_reducible repeat (first|refine blk_drewN ?_ _|refine blk_drew ?_|refine blk_alloc ?_ _));exact BK271.out) Tryd.underlying41 rfl (by kernel_rfl)) rfl ?_
           exact ⟨_,by first|rfl|(simp [errW_none,errW_some]<;>rfl)|(simp only [← hji5,← hji9,← hji10];first|rfl|(simp [errW_none,errW_some]<;>rfl))|(simp [*,errW_none,errW_some]<;>rfl),by (with_reducible repeat (first|apply Kd.R_alloc|apply Kd.R_drewN|apply Kd.R_drew));exact Kd.R_mono (Kd.R_far (p:=⟨gb271,4,none⟩) (Kd.R_far (p:=⟨gb271,3,none⟩) (Kd.R_far (p:=⟨gb271,2,none⟩) (Kd.R_far (p:=⟨gb271,1,none⟩) (Kd.R_far (p:=⟨gb271,0,none⟩) (Kd.R_far (p:=⟨gb275,3,none⟩) (Kd.R_far (p:=⟨gb275,1,none⟩) (Kd.R_far (p:=⟨gb275,4,none⟩) (Kd.R_types (Kd.R_types HO282.out BK275.out (by decide)) BK271.out (by decide)) (fun _ hk=>hk.1.2) (.slice Ao66 y280.length co66)) (fun _ hk=>hk.1.2) (.int .i64 t283)) (fun _ hk=>hk.1.2) (.int .i64 t284)) (fun _ hk=>hk.2) (.int .i64 ji9)) (fun _ hk=>hk.2) (.int .i64 t283)) (fun _ hk=>hk.2) (.int .i64 (wrap64 ((ji9)+a3)))) (fun _ hk=>hk.2) (.int .i64 t284)) (fun _ hk=>hk.2) (.slice Ao66 y280.length co66)) (fun _ hk=>trivial),by repeat (first|(with_reducible first|exact HB.out|apply below_alloc|apply pw_below_drewN|apply below_drew1|refine below_set ?_ GE271.out|refine below_set ?_ GE273.out|refine below_set ?_ GE275.out)|exact HB.out)⟩
          ·rw [if_neg c59] at H
           exact absurd H (by simp)
         ·rw [if_neg c57] at H
          exact absurd H (by simp)
        ·rw [if_neg c56] at H
         exact absurd H (by simp)
       ·rw [if_neg c55] at H
        exact absurd H (by simp)
   ·rw [if_neg c8] at H
    exact absurd H (by simp)
  ·rw [if_neg c7] at H
   exact absurd H (by simp)
 ·rw [if_neg c6] at H
  exact absurd H (by simp)

end Go.Proofs.YtamojbfmphainaaDoor.Pr
-- shrunk
