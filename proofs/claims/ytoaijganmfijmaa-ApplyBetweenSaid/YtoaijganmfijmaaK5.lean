/-
Several plain texts in one.
-/
import Derived.Test.YtoaijganmfijmaaK0
import Derived.Test.YtoaijganmfijmaaK2
import Derived.Test.YtoaijganmfijmaaGRefMake
import Derived.Test.YtoaijganmfijmaaK1
import Derived.Test.YtoaijganmfijmaaK3
import Derived.Test.YtoaijganmfijmaaD3
import Derived.WalkSmall
import Derived.Tactics
import Derived.Tactics2
import Derived.Defers
import Derived.Recover
import Derived.Laws.Pointers
import Derived.Lib.SlicesS
import Derived.IntWalk
import Derived.Deep.DeepMust
set_option linter.unusedVariables false
set_option linter.unusedSimpArgs false
-- written by a program of this session's (a turned copy of the kit's printer); Lean checks it
namespace Go.Proofs.Ytoaijganmfijmaa.Pr
open Go.RowKit Go.Proofs.YtoaijganmfijmaaW.PrintWords Go.Proofs.YtoaijganmfijmaaW.PrintLast Go.Proofs.YtoaijganmfijmaaW.PrintMore
attribute [local go_sem] max2_int min2_int max_two min_two max_three min_three max_four min_four   -- for this text's walks alone

def r05_One.f (k:Nat) (a0_0:Int) (a0_1:Int) (a0_2:Int) (a0_3:Int) (l0_4:List ByteArray) (a1_0:Int) (a1_1:Int) (a1_2:Int) (a1_3:Int) (l1_4:List ByteArray):Option (Bool):=if a0_0=a1_0 then (if a0_1=a1_1 then (if a0_2=a1_2 then (if a0_3=a1_3 then ((r01_Texts.f k l0_4 l1_4).bind fun t114=>(some t114)) else (some false)) else (some false)) else (some false)) else (some false)
theorem r05_One.mono:∀ a0 a1 a2 a3 a4 a5 a6 a7 a8 a9 k,LeO (r05_One.f k a0 a1 a2 a3 a4 a5 a6 a7 a8 a9) (r05_One.f (k+1) a0 a1 a2 a3 a4 a5 a6 a7 a8 a9):=by
 intro a0 a1 a2 a3 a4 a5 a6 a7 a8 a9 k
 unfold r05_One.f
 repeat' first
   | (with_reducible exact r01_Texts.mono _ _ _)
   | (with_reducible exact LeO.refl _)
   | (with_reducible exact LeO.none _)
   | (with_reducible refine LeO.ite ?_ ?_)
   | (with_reducible refine LeO.bind ?_ (fun _=>?_))
   | exact r01_Texts.mono _ _ _
   | exact LeO.none _
   | refine LeO.ite ?_ ?_
   | refine LeO.bind ?_ (fun _=>?_)
set_option maxHeartbeats 8000000 in
set_option maxRecDepth 100000 in
theorem r05_One.calls (k:Nat) (a0_0:Int) (a0_1:Int) (a0_2:Int) (a0_3:Int) (A0_4:Option Addr) (c0_4:Nat) (l0_4:List ByteArray) (a1_0:Int) (a1_1:Int) (a1_2:Int) (a1_3:Int) (A1_4:Option Addr) (c1_4:Nat) (l1_4:List ByteArray) (r:Bool) (w:World) (hr0_4:Kd.C Kd.string w A0_4 l0_4.length l0_4) (hc0_4:l0_4.length≤c0_4) (hr1_4:Kd.C Kd.string w A1_4 l1_4.length l1_4) (hc1_4:l1_4.length≤c1_4) (h:r05_One.f k a0_0 a0_1 a0_2 a0_3 l0_4 a1_0 a1_1 a1_2 a1_3 l1_4=some r) :
  Calls Try.prog 26 #[.agg #[.int .i64 a0_0,.int .i64 a0_1,.int .i64 a0_2,.int .i64 a0_3,.slice A0_4 l0_4.length c0_4],.agg #[.int .i64 a1_0,.int .i64 a1_1,.int .i64 a1_2,.int .i64 a1_3,.slice A1_4 l1_4.length c1_4]] w fun e w'=>e=.returned (.bool r)∧Below w.heap.size w w':=by
 have hu41:=Try.underlying41
 have HR0_4:=Aside0.mk hr0_4
 have HC0_4:=Aside0.mk hc0_4
 clear hr0_4 hc0_4
 have HR1_4:=Aside0.mk hr1_4
 have HC1_4:=Aside0.mk hc1_4
 clear hr1_4 hc1_4
 have HB:=Aside0.mk (Below.refl w.heap.size w)
 have H:(if a0_0=a1_0 then (if a0_1=a1_1 then (if a0_2=a1_2 then (if a0_3=a1_3 then ((r01_Texts.f k l0_4 l1_4).bind fun t114=>(some t114)) else (some false)) else (some false)) else (some false)) else (some false))=some r:=h
 clear h
 by_cases c3:a0_0=a1_0
 rotate_left
 ·rw [if_neg c3] at H
  have c3b0:(a0_0 == a1_0)=false:=beq_eq_false_iff_ne.mpr c3
  have c3b1:(a0_0 != a1_0)=true:=bne_iff_ne.mpr c3
  obtain rfl:=Option.some.inj H
  go_enter Try.func26,Try.ntmps26
  go_wp2_with (first|((with_reducible refine gate_dst (N:=2) rfl ?_);refine box_event ?hg (N:=2) ?hd (cs:=#[.int .i64 a0_0,.int .i64 a0_1,.int .i64 a0_2,.int .i64 a0_3,.slice A0_4 l0_4.length c0_4]) (t:=41) ?hr ?_;(case hd=>rfl);(case hg=>rfl);(case hr=>first|(go_simp;done)|(go_simp;rfl));intro gb112 hg w28 hbox hb;have n0_:=Aside0.mk (below_step bel hb);have n1_:=Aside0.mk (hbox);have n2_:=Aside0.mk ((szl:w.heap.size≤gb112));have n3_:=Aside0.mk ((szl:w.heap.size≤gb112));clear HB;have HB:=n0_;have BK112:=n1_;have GW112:=n2_;have GE112:=n3_;clear n0_ n1_ n2_ n3_;clear hb hbox hg)|((with_reducible refine gate_dst (N:=3) rfl ?_);refine box_event ?hg (N:=3) ?hd (cs:=#[.int .i64 a1_0,.int .i64 a1_1,.int .i64 a1_2,.int .i64 a1_3,.slice A1_4 l1_4.length c1_4]) (t:=41) ?hr ?_;(case hd=>rfl);(case hg=>rfl);(case hr=>first|(go_simp;done)|(go_simp;rfl));intro gb113 hg w29 hbox hb;have n0_:=Aside0.mk (blk_below (g:=gb112) (o:=.cells #[.int .i64 a0_0,.int .i64 a0_1,.int .i64 a0_2,.int .i64 a0_3,.slice A0_4 l0_4.length c0_4] 41 (0,0)) (by (with_reducible repeat (first|refine blk_drewN ?_ _|refine blk_drew ?_|refine blk_alloc ?_ _));exact BK112.out) hb);have n1_:=Aside0.mk (below_step bel hb);have n2_:=Aside0.mk (hbox);have n3_:=Aside0.mk ((szl:w.heap.size≤gb113));have n4_:=Aside0.mk ((szl:w.heap.size≤gb113));have n5_:=Aside0.mk ((by rw [hg];exact Nat.ne_of_lt (blk_lt (g:=gb112) (o:=.cells #[.int .i64 a0_0,.int .i64 a0_1,.int .i64 a0_2,.int .i64 a0_3,.slice A0_4 l0_4.length c0_4] 41 (0,0)) (by (with_reducible repeat (first|refine blk_drewN ?_ _|refine blk_drew ?_|refine blk_alloc ?_ _));exact BK112.out)):gb112≠gb113));have n6_:=Aside0.mk ((by rw [hg];exact Nat.ne_of_gt (blk_lt (g:=gb112) (o:=.cells #[.int .i64 a0_0,.int .i64 a0_1,.int .i64 a0_2,.int .i64 a0_3,.slice A0_4 l0_4.length c0_4] 41 (0,0)) (by (with_reducible repeat (first|refine blk_drewN ?_ _|refine blk_drew ?_|refine blk_alloc ?_ _));exact BK112.out)):gb113≠gb112));clear BK112;clear HB;have BK112:=n0_;have HB:=n1_;have BK113:=n2_;have GW113:=n3_;have GE113:=n4_;have NB112_113:=n5_;have NB113_112:=n6_;clear n0_ n1_ n2_ n3_ n4_ n5_ n6_;clear hb hbox hg;have hnb30:=NB112_113.out;have hnc30:=NB113_112.out;have hcz31_0:w29.cell? ⟨gb112,0,none⟩=some (.int .i64 a0_0):=(blk_cell BK112.out 0).trans rfl;have hcz31_1:w29.cell? ⟨gb112,1,none⟩=some (.int .i64 a0_1):=(blk_cell BK112.out 1).trans rfl;have hcz31_2:w29.cell? ⟨gb112,2,none⟩=some (.int .i64 a0_2):=(blk_cell BK112.out 2).trans rfl;have hcz31_3:w29.cell? ⟨gb112,3,none⟩=some (.int .i64 a0_3):=(blk_cell BK112.out 3).trans rfl;have hcz31_4:w29.cell? ⟨gb112,4,none⟩=some (.slice A0_4 l0_4.length c0_4):=(blk_cell BK112.out 4).trans rfl;have hfz31_0:=blk_frozen BK112.out 0;have hfz31_1:=blk_frozen BK112.out 1;have hfz31_2:=blk_frozen BK112.out 2;have hfz31_3:=blk_frozen BK112.out 3;have hfz31_4:=blk_frozen BK112.out 4;have hcz32_0:w29.cell? ⟨gb113,0,none⟩=some (.int .i64 a1_0):=(blk_cell BK113.out 0).trans rfl;have hcz32_1:w29.cell? ⟨gb113,1,none⟩=some (.int .i64 a1_1):=(blk_cell BK113.out 1).trans rfl;have hcz32_2:w29.cell? ⟨gb113,2,none⟩=some (.int .i64 a1_2):=(blk_cell BK113.out 2).trans rfl;have hcz32_3:w29.cell? ⟨gb113,3,none⟩=some (.int .i64 a1_3):=(blk_cell BK113.out 3).trans rfl;have hcz32_4:w29.cell? ⟨gb113,4,none⟩=some (.slice A1_4 l1_4.length c1_4):=(blk_cell BK113.out 4).trans rfl;have hfz32_0:=blk_frozen BK113.out 0;have hfz32_1:=blk_frozen BK113.out 1;have hfz32_2:=blk_frozen BK113.out 2;have hfz32_3:=blk_frozen BK113.out 3;have hfz32_4:=blk_frozen BK113.out 4))
  go_ret
  exact ⟨by first|rfl|(simp [errW_none,errW_some]<;>rfl)|(simp [*,errW_none,errW_some]<;>rfl),bel⟩

 rw [if_pos c3] at H
 have c3b0:(a0_0 == a1_0)=true:=beq_iff_eq.mpr c3
 have c3b1:(a0_0 != a1_0)=false:=bne_eq_false_iff_eq.mpr c3
 clear c3
 by_cases c4:a0_1=a1_1
 rotate_left
 ·rw [if_neg c4] at H
  have c4b0:(a0_1 == a1_1)=false:=beq_eq_false_iff_ne.mpr c4
  have c4b1:(a0_1 != a1_1)=true:=bne_iff_ne.mpr c4
  obtain rfl:=Option.some.inj H
  go_enter Try.func26,Try.ntmps26
  go_wp2_with (first|((with_reducible refine gate_dst (N:=2) rfl ?_);refine box_event ?hg (N:=2) ?hd (cs:=#[.int .i64 a0_0,.int .i64 a0_1,.int .i64 a0_2,.int .i64 a0_3,.slice A0_4 l0_4.length c0_4]) (t:=41) ?hr ?_;(case hd=>rfl);(case hg=>rfl);(case hr=>first|(go_simp;done)|(go_simp;rfl));intro gb112 hg w23 hbox hb;have n0_:=Aside0.mk (below_step bel hb);have n1_:=Aside0.mk (hbox);have n2_:=Aside0.mk ((szl:w.heap.size≤gb112));have n3_:=Aside0.mk ((szl:w.heap.size≤gb112));clear HB;have HB:=n0_;have BK112:=n1_;have GW112:=n2_;have GE112:=n3_;clear n0_ n1_ n2_ n3_;clear hb hbox hg)|((with_reducible refine gate_dst (N:=3) rfl ?_);refine box_event ?hg (N:=3) ?hd (cs:=#[.int .i64 a1_0,.int .i64 a1_1,.int .i64 a1_2,.int .i64 a1_3,.slice A1_4 l1_4.length c1_4]) (t:=41) ?hr ?_;(case hd=>rfl);(case hg=>rfl);(case hr=>first|(go_simp;done)|(go_simp;rfl));intro gb113 hg w24 hbox hb;have n0_:=Aside0.mk (blk_below (g:=gb112) (o:=.cells #[.int .i64 a0_0,.int .i64 a0_1,.int .i64 a0_2,.int .i64 a0_3,.slice A0_4 l0_4.length c0_4] 41 (0,0)) (by (with_reducible repeat (first|refine blk_drewN ?_ _|refine blk_drew ?_|refine blk_alloc ?_ _));exact BK112.out) hb);have n1_:=Aside0.mk (below_step bel hb);have n2_:=Aside0.mk (hbox);have n3_:=Aside0.mk ((szl:w.heap.size≤gb113));have n4_:=Aside0.mk ((szl:w.heap.size≤gb113));have n5_:=Aside0.mk ((by rw [hg];exact Nat.ne_of_lt (blk_lt (g:=gb112) (o:=.cells #[.int .i64 a0_0,.int .i64 a0_1,.int .i64 a0_2,.int .i64 a0_3,.slice A0_4 l0_4.length c0_4] 41 (0,0)) (by (with_reducible repeat (first|refine blk_drewN ?_ _|refine blk_drew ?_|refine blk_alloc ?_ _));exact BK112.out)):gb112≠gb113));have n6_:=Aside0.mk ((by rw [hg];exact Nat.ne_of_gt (blk_lt (g:=gb112) (o:=.cells #[.int .i64 a0_0,.int .i64 a0_1,.int .i64 a0_2,.int .i64 a0_3,.slice A0_4 l0_4.length c0_4] 41 (0,0)) (by (with_reducible repeat (first|refine blk_drewN ?_ _|refine blk_drew ?_|refine blk_alloc ?_ _));exact BK112.out)):gb113≠gb112));clear BK112;clear HB;have BK112:=n0_;have HB:=n1_;have BK113:=n2_;have GW113:=n3_;have GE113:=n4_;have NB112_113:=n5_;have NB113_112:=n6_;clear n0_ n1_ n2_ n3_ n4_ n5_ n6_;clear hb hbox hg;have hnb25:=NB112_113.out;have hnc25:=NB113_112.out;have hcz26_0:w24.cell? ⟨gb112,0,none⟩=some (.int .i64 a0_0):=(blk_cell BK112.out 0).trans rfl;have hcz26_1:w24.cell? ⟨gb112,1,none⟩=some (.int .i64 a0_1):=(blk_cell BK112.out 1).trans rfl;have hcz26_2:w24.cell? ⟨gb112,2,none⟩=some (.int .i64 a0_2):=(blk_cell BK112.out 2).trans rfl;have hcz26_3:w24.cell? ⟨gb112,3,none⟩=some (.int .i64 a0_3):=(blk_cell BK112.out 3).trans rfl;have hcz26_4:w24.cell? ⟨gb112,4,none⟩=some (.slice A0_4 l0_4.length c0_4):=(blk_cell BK112.out 4).trans rfl;have hfz26_0:=blk_frozen BK112.out 0;have hfz26_1:=blk_frozen BK112.out 1;have hfz26_2:=blk_frozen BK112.out 2;have hfz26_3:=blk_frozen BK112.out 3;have hfz26_4:=blk_frozen BK112.out 4;have hcz27_0:w24.cell? ⟨gb113,0,none⟩=some (.int .i64 a1_0):=(blk_cell BK113.out 0).trans rfl;have hcz27_1:w24.cell? ⟨gb113,1,none⟩=some (.int .i64 a1_1):=(blk_cell BK113.out 1).trans rfl;have hcz27_2:w24.cell? ⟨gb113,2,none⟩=some (.int .i64 a1_2):=(blk_cell BK113.out 2).trans rfl;have hcz27_3:w24.cell? ⟨gb113,3,none⟩=some (.int .i64 a1_3):=(blk_cell BK113.out 3).trans rfl;have hcz27_4:w24.cell? ⟨gb113,4,none⟩=some (.slice A1_4 l1_4.length c1_4):=(blk_cell BK113.out 4).trans rfl;have hfz27_0:=blk_frozen BK113.out 0;have hfz27_1:=blk_frozen BK113.out 1;have hfz27_2:=blk_frozen BK113.out 2;have hfz27_3:=blk_frozen BK113.out 3;have hfz27_4:=blk_frozen BK113.out 4))
  go_ret
  exact ⟨by first|rfl|(simp [errW_none,errW_some]<;>rfl)|(simp [*,errW_none,errW_some]<;>rfl),bel⟩
 rw [if_pos c4] at H
 have c4b0:(a0_1 == a1_1)=true:=beq_iff_eq.mpr c4
 have c4b1:(a0_1 != a1_1)=false:=bne_eq_false_iff_eq.mpr c4
 clear c4
 by_cases c5:a0_2=a1_2
 rotate_left
 ·rw [if_neg c5] at H
  have c5b0:(a0_2 == a1_2)=false:=beq_eq_false_iff_ne.mpr c5
  have c5b1:(a0_2 != a1_2)=true:=bne_iff_ne.mpr c5
  obtain rfl:=Option.some.inj H
  go_enter Try.func26,Try.ntmps26
  go_wp2_with (first|((with_reducible refine gate_dst (N:=2) rfl ?_);refine box_event ?hg (N:=2) ?hd (cs:=#[.int .i64 a0_0,.int .i64 a0_1,.int .i64 a0_2,.int .i64 a0_3,.slice A0_4 l0_4.length c0_4]) (t:=41) ?hr ?_;(case hd=>rfl);(case hg=>rfl);(case hr=>first|(go_simp;done)|(go_simp;rfl));intro gb112 hg w18 hbox hb;have n0_:=Aside0.mk (below_step bel hb);have n1_:=Aside0.mk (hbox);have n2_:=Aside0.mk ((szl:w.heap.size≤gb112));have n3_:=Aside0.mk ((szl:w.heap.size≤gb112));clear HB;have HB:=n0_;have BK112:=n1_;have GW112:=n2_;have GE112:=n3_;clear n0_ n1_ n2_ n3_;clear hb hbox hg)|((with_reducible refine gate_dst (N:=3) rfl ?_);refine box_event ?hg (N:=3) ?hd (cs:=#[.int .i64 a1_0,.int .i64 a1_1,.int .i64 a1_2,.int .i64 a1_3,.slice A1_4 l1_4.length c1_4]) (t:=41) ?hr ?_;(case hd=>rfl);(case hg=>rfl);(case hr=>first|(go_simp;done)|(go_simp;rfl));intro gb113 hg w19 hbox hb;have n0_:=Aside0.mk (blk_below (g:=gb112) (o:=.cells #[.int .i64 a0_0,.int .i64 a0_1,.int .i64 a0_2,.int .i64 a0_3,.slice A0_4 l0_4.length c0_4] 41 (0,0)) (by (with_reducible repeat (first|refine blk_drewN ?_ _|refine blk_drew ?_|refine blk_alloc ?_ _));exact BK112.out) hb);have n1_:=Aside0.mk (below_step bel hb);have n2_:=Aside0.mk (hbox);have n3_:=Aside0.mk ((szl:w.heap.size≤gb113));have n4_:=Aside0.mk ((szl:w.heap.size≤gb113));have n5_:=Aside0.mk ((by rw [hg];exact Nat.ne_of_lt (blk_lt (g:=gb112) (o:=.cells #[.int .i64 a0_0,.int .i64 a0_1,.int .i64 a0_2,.int .i64 a0_3,.slice A0_4 l0_4.length c0_4] 41 (0,0)) (by (with_reducible repeat (first|refine blk_drewN ?_ _|refine blk_drew ?_|refine blk_alloc ?_ _));exact BK112.out)):gb112≠gb113));have n6_:=Aside0.mk ((by rw [hg];exact Nat.ne_of_gt (blk_lt (g:=gb112) (o:=.cells #[.int .i64 a0_0,.int .i64 a0_1,.int .i64 a0_2,.int .i64 a0_3,.slice A0_4 l0_4.length c0_4] 41 (0,0)) (by (with_reducible repeat (first|refine blk_drewN ?_ _|refine blk_drew ?_|refine blk_alloc ?_ _));exact BK112.out)):gb113≠gb112));clear BK112;clear HB;have BK112:=n0_;have HB:=n1_;have BK113:=n2_;have GW113:=n3_;have GE113:=n4_;have NB112_113:=n5_;have NB113_112:=n6_;clear n0_ n1_ n2_ n3_ n4_ n5_ n6_;clear hb hbox hg;have hnb20:=NB112_113.out;have hnc20:=NB113_112.out;have hcz21_0:w19.cell? ⟨gb112,0,none⟩=some (.int .i64 a0_0):=(blk_cell BK112.out 0).trans rfl;have hcz21_1:w19.cell? ⟨gb112,1,none⟩=some (.int .i64 a0_1):=(blk_cell BK112.out 1).trans rfl;have hcz21_2:w19.cell? ⟨gb112,2,none⟩=some (.int .i64 a0_2):=(blk_cell BK112.out 2).trans rfl;have hcz21_3:w19.cell? ⟨gb112,3,none⟩=some (.int .i64 a0_3):=(blk_cell BK112.out 3).trans rfl;have hcz21_4:w19.cell? ⟨gb112,4,none⟩=some (.slice A0_4 l0_4.length c0_4):=(blk_cell BK112.out 4).trans rfl;have hfz21_0:=blk_frozen BK112.out 0;have hfz21_1:=blk_frozen BK112.out 1;have hfz21_2:=blk_frozen BK112.out 2;have hfz21_3:=blk_frozen BK112.out 3;have hfz21_4:=blk_frozen BK112.out 4;have hcz22_0:w19.cell? ⟨gb113,0,none⟩=some (.int .i64 a1_0):=(blk_cell BK113.out 0).trans rfl;have hcz22_1:w19.cell? ⟨gb113,1,none⟩=some (.int .i64 a1_1):=(blk_cell BK113.out 1).trans rfl;have hcz22_2:w19.cell? ⟨gb113,2,none⟩=some (.int .i64 a1_2):=(blk_cell BK113.out 2).trans rfl;have hcz22_3:w19.cell? ⟨gb113,3,none⟩=some (.int .i64 a1_3):=(blk_cell BK113.out 3).trans rfl;have hcz22_4:w19.cell? ⟨gb113,4,none⟩=some (.slice A1_4 l1_4.length c1_4):=(blk_cell BK113.out 4).trans rfl;have hfz22_0:=blk_frozen BK113.out 0;have hfz22_1:=blk_frozen BK113.out 1;have hfz22_2:=blk_frozen BK113.out 2;have hfz22_3:=blk_frozen BK113.out 3;have hfz22_4:=blk_frozen BK113.out 4))
  go_ret
  exact ⟨by first|rfl|(simp [errW_none,errW_some]<;>rfl)|(simp [*,errW_none,errW_some]<;>rfl),bel⟩
 rw [if_pos c5] at H
 have c5b0:(a0_2 == a1_2)=true:=beq_iff_eq.mpr c5
 have c5b1:(a0_2 != a1_2)=false:=bne_eq_false_iff_eq.mpr c5
 clear c5
 by_cases c6:a0_3=a1_3
 rotate_left
 ·rw [if_neg c6] at H
  have c6b0:(a0_3 == a1_3)=false:=beq_eq_false_iff_ne.mpr c6
  have c6b1:(a0_3 != a1_3)=true:=bne_iff_ne.mpr c6
  obtain rfl:=Option.some.inj H
  go_enter Try.func26,Try.ntmps26
  go_wp2_with (first|((with_reducible refine gate_dst (N:=2) rfl ?_);refine box_event ?hg (N:=2) ?hd (cs:=#[.int .i64 a0_0,.int .i64 a0_1,.int .i64 a0_2,.int .i64 a0_3,.slice A0_4 l0_4.length c0_4]) (t:=41) ?hr ?_;(case hd=>rfl);(case hg=>rfl);(case hr=>first|(go_simp;done)|(go_simp;rfl));intro gb112 hg w13 hbox hb;have n0_:=Aside0.mk (below_step bel hb);have n1_:=Aside0.mk (hbox);have n2_:=Aside0.mk ((szl:w.heap.size≤gb112));have n3_:=Aside0.mk ((szl:w.heap.size≤gb112));clear HB;have HB:=n0_;have BK112:=n1_;have GW112:=n2_;have GE112:=n3_;clear n0_ n1_ n2_ n3_;clear hb hbox hg)|((with_reducible refine gate_dst (N:=3) rfl ?_);refine box_event ?hg (N:=3) ?hd (cs:=#[.int .i64 a1_0,.int .i64 a1_1,.int .i64 a1_2,.int .i64 a1_3,.slice A1_4 l1_4.length c1_4]) (t:=41) ?hr ?_;(case hd=>rfl);(case hg=>rfl);(case hr=>first|(go_simp;done)|(go_simp;rfl));intro gb113 hg w14 hbox hb;have n0_:=Aside0.mk (blk_below (g:=gb112) (o:=.cells #[.int .i64 a0_0,.int .i64 a0_1,.int .i64 a0_2,.int .i64 a0_3,.slice A0_4 l0_4.length c0_4] 41 (0,0)) (by (with_reducible repeat (first|refine blk_drewN ?_ _|refine blk_drew ?_|refine blk_alloc ?_ _));exact BK112.out) hb);have n1_:=Aside0.mk (below_step bel hb);have n2_:=Aside0.mk (hbox);have n3_:=Aside0.mk ((szl:w.heap.size≤gb113));have n4_:=Aside0.mk ((szl:w.heap.size≤gb113));have n5_:=Aside0.mk ((by rw [hg];exact Nat.ne_of_lt (blk_lt (g:=gb112) (o:=.cells #[.int .i64 a0_0,.int .i64 a0_1,.int .i64 a0_2,.int .i64 a0_3,.slice A0_4 l0_4.length c0_4] 41 (0,0)) (by (with_reducible repeat (first|refine blk_drewN ?_ _|refine blk_drew ?_|refine blk_alloc ?_ _));exact BK112.out)):gb112≠gb113));have n6_:=Aside0.mk ((by rw [hg];exact Nat.ne_of_gt (blk_lt (g:=gb112) (o:=.cells #[.int .i64 a0_0,.int .i64 a0_1,.int .i64 a0_2,.int .i64 a0_3,.slice A0_4 l0_4.length c0_4] 41 (0,0)) (by (with_reducible repeat (first|refine blk_drewN ?_ _|refine blk_drew ?_|refine blk_alloc ?_ _));exact BK112.out)):gb113≠gb112));clear BK112;clear HB;have BK112:=n0_;have HB:=n1_;have BK113:=n2_;have GW113:=n3_;have GE113:=n4_;have NB112_113:=n5_;have NB113_112:=n6_;clear n0_ n1_ n2_ n3_ n4_ n5_ n6_;clear hb hbox hg;have hnb15:=NB112_113.out;have hnc15:=NB113_112.out;have hcz16_0:w14.cell? ⟨gb112,0,none⟩=some (.int .i64 a0_0):=(blk_cell BK112.out 0).trans rfl;have hcz16_1:w14.cell? ⟨gb112,1,none⟩=some (.int .i64 a0_1):=(blk_cell BK112.out 1).trans rfl;have hcz16_2:w14.cell? ⟨gb112,2,none⟩=some (.int .i64 a0_2):=(blk_cell BK112.out 2).trans rfl;have hcz16_3:w14.cell? ⟨gb112,3,none⟩=some (.int .i64 a0_3):=(blk_cell BK112.out 3).trans rfl;have hcz16_4:w14.cell? ⟨gb112,4,none⟩=some (.slice A0_4 l0_4.length c0_4):=(blk_cell BK112.out 4).trans rfl;have hfz16_0:=blk_frozen BK112.out 0;have hfz16_1:=blk_frozen BK112.out 1;have hfz16_2:=blk_frozen BK112.out 2;have hfz16_3:=blk_frozen BK112.out 3;have hfz16_4:=blk_frozen BK112.out 4;have hcz17_0:w14.cell? ⟨gb113,0,none⟩=some (.int .i64 a1_0):=(blk_cell BK113.out 0).trans rfl;have hcz17_1:w14.cell? ⟨gb113,1,none⟩=some (.int .i64 a1_1):=(blk_cell BK113.out 1).trans rfl;have hcz17_2:w14.cell? ⟨gb113,2,none⟩=some (.int .i64 a1_2):=(blk_cell BK113.out 2).trans rfl;have hcz17_3:w14.cell? ⟨gb113,3,none⟩=some (.int .i64 a1_3):=(blk_cell BK113.out 3).trans rfl;have hcz17_4:w14.cell? ⟨gb113,4,none⟩=some (.slice A1_4 l1_4.length c1_4):=(blk_cell BK113.out 4).trans rfl;have hfz17_0:=blk_frozen BK113.out 0;have hfz17_1:=blk_frozen BK113.out 1;have hfz17_2:=blk_frozen BK113.out 2;have hfz17_3:=blk_frozen BK113.out 3;have hfz17_4:=blk_frozen BK113.out 4))
  go_ret
  exact ⟨by first|rfl|(simp [errW_none,errW_some]<;>rfl)|(simp [*,errW_none,errW_some]<;>rfl),bel⟩
 rw [if_pos c6] at H
 have c6b0:(a0_3 == a1_3)=true:=beq_iff_eq.mpr c6
 have c6b1:(a0_3 != a1_3)=false:=bne_eq_false_iff_eq.mpr c6
 clear c6
 replace H:=Option.bind_eq_some_iff.mp H
 obtain ⟨t114,A70,H⟩:=H
 replace H:(some t114)=some r:=H
 have A7:=Aside0.mk A70
 clear A70
 obtain rfl:=Option.some.inj H
 go_enter Try.func26,Try.ntmps26
 go_wp2_with (first|((with_reducible refine gate_dst (N:=2) rfl ?_);refine box_event ?hg (N:=2) ?hd (cs:=#[.int .i64 a0_0,.int .i64 a0_1,.int .i64 a0_2,.int .i64 a0_3,.slice A0_4 l0_4.length c0_4]) (t:=41) ?hr ?_;(case hd=>rfl);(case hg=>rfl);(case hr=>first|(go_simp;done)|(go_simp;rfl));intro gb112 hg w8 hbox hb;have n0_:=Aside0.mk (below_step bel hb);have n1_:=Aside0.mk (hbox);have n2_:=Aside0.mk ((szl:w.heap.size≤gb112));have n3_:=Aside0.mk ((szl:w.heap.size≤gb112));clear HB;have HB:=n0_;have BK112:=n1_;have GW112:=n2_;have GE112:=n3_;clear n0_ n1_ n2_ n3_;clear hb hbox hg)|((with_reducible refine gate_dst (N:=3) rfl ?_);refine box_event ?hg (N:=3) ?hd (cs:=#[.int .i64 a1_0,.int .i64 a1_1,.int .i64 a1_2,.int .i64 a1_3,.slice A1_4 l1_4.length c1_4]) (t:=41) ?hr ?_;(case hd=>rfl);(case hg=>rfl);(case hr=>first|(go_simp;done)|(go_simp;rfl));intro gb113 hg w9 hbox hb;have n0_:=Aside0.mk (blk_below (g:=gb112) (o:=.cells #[.int .i64 a0_0,.int .i64 a0_1,.int .i64 a0_2,.int .i64 a0_3,.slice A0_4 l0_4.length c0_4] 41 (0,0)) (by (with_reducible repeat (first|refine blk_drewN ?_ _|refine blk_drew ?_|refine blk_alloc ?_ _));exact BK112.out) hb);have n1_:=Aside0.mk (below_step bel hb);have n2_:=Aside0.mk (hbox);have n3_:=Aside0.mk ((szl:w.heap.size≤gb113));have n4_:=Aside0.mk ((szl:w.heap.size≤gb113));have n5_:=Aside0.mk ((by rw [hg];exact Nat.ne_of_lt (blk_lt (g:=gb112) (o:=.cells #[.int .i64 a0_0,.int .i64 a0_1,.int .i64 a0_2,.int .i64 a0_3,.slice A0_4 l0_4.length c0_4] 41 (0,0)) (by (with_reducible repeat (first|refine blk_drewN ?_ _|refine blk_drew ?_|refine blk_alloc ?_ _));exact BK112.out)):gb112≠gb113));have n6_:=Aside0.mk ((by rw [hg];exact Nat.ne_of_gt (blk_lt (g:=gb112) (o:=.cells #[.int .i64 a0_0,.int .i64 a0_1,.int .i64 a0_2,.int .i64 a0_3,.slice A0_4 l0_4.length c0_4] 41 (0,0)) (by (with_reducible repeat (first|refine blk_drewN ?_ _|refine blk_drew ?_|refine blk_alloc ?_ _));exact BK112.out)):gb113≠gb112));clear BK112;clear HB;have BK112:=n0_;have HB:=n1_;have BK113:=n2_;have GW113:=n3_;have GE113:=n4_;have NB112_113:=n5_;have NB113_112:=n6_;clear n0_ n1_ n2_ n3_ n4_ n5_ n6_;clear hb hbox hg;have hnb10:=NB112_113.out;have hnc10:=NB113_112.out;have hcz11_0:w9.cell? ⟨gb112,0,none⟩=some (.int .i64 a0_0):=(blk_cell BK112.out 0).trans rfl;have hcz11_1:w9.cell? ⟨gb112,1,none⟩=some (.int .i64 a0_1):=(blk_cell BK112.out 1).trans rfl;have hcz11_2:w9.cell? ⟨gb112,2,none⟩=some (.int .i64 a0_2):=(blk_cell BK112.out 2).trans rfl;have hcz11_3:w9.cell? ⟨gb112,3,none⟩=some (.int .i64 a0_3):=(blk_cell BK112.out 3).trans rfl;have hcz11_4:w9.cell? ⟨gb112,4,none⟩=some (.slice A0_4 l0_4.length c0_4):=(blk_cell BK112.out 4).trans rfl;have hfz11_0:=blk_frozen BK112.out 0;have hfz11_1:=blk_frozen BK112.out 1;have hfz11_2:=blk_frozen BK112.out 2;have hfz11_3:=blk_frozen BK112.out 3;have hfz11_4:=blk_frozen BK112.out 4;have hcz12_0:w9.cell? ⟨gb113,0,none⟩=some (.int .i64 a1_0):=(blk_cell BK113.out 0).trans rfl;have hcz12_1:w9.cell? ⟨gb113,1,none⟩=some (.int .i64 a1_1):=(blk_cell BK113.out 1).trans rfl;have hcz12_2:w9.cell? ⟨gb113,2,none⟩=some (.int .i64 a1_2):=(blk_cell BK113.out 2).trans rfl;have hcz12_3:w9.cell? ⟨gb113,3,none⟩=some (.int .i64 a1_3):=(blk_cell BK113.out 3).trans rfl;have hcz12_4:w9.cell? ⟨gb113,4,none⟩=some (.slice A1_4 l1_4.length c1_4):=(blk_cell BK113.out 4).trans rfl;have hfz12_0:=blk_frozen BK113.out 0;have hfz12_1:=blk_frozen BK113.out 1;have hfz12_2:=blk_frozen BK113.out 2;have hfz12_3:=blk_frozen BK113.out 3;have hfz12_4:=blk_frozen BK113.out 4)|(go_at_call 14;(with_reducible refine (r01_Texts.calls k _ _ l0_4 _ _ l1_4 t114 _ ?side1 ?side2 ?side3 ?side4 A7.out).mono ?_);(case side1=>repeat (first|exact (Kd.C_below HR0_4.out HB.out)|(with_reducible refine Kd.C_alloc ?_ _)|(with_reducible refine Kd.C_drewN ?_ _)|(with_reducible refine Kd.C_drew ?_)));(case side2=>exact HC0_4.out);(case side3=>repeat (first|exact (Kd.C_below HR1_4.out HB.out)|(with_reducible refine Kd.C_alloc ?_ _)|(with_reducible refine Kd.C_drewN ?_ _)|(with_reducible refine Kd.C_drew ?_)));(case side4=>exact HC1_4.out);rintro e w' ⟨rfl,⟨nd,rfl⟩⟩))
 go_ret
 exact ⟨by first|rfl|(simp [errW_none,errW_some]<;>rfl)|(simp [*,errW_none,errW_some]<;>rfl),bel⟩
end Go.Proofs.Ytoaijganmfijmaa.Pr
-- shrunk
-- written by a program of this session's (a turned copy of the kit's printer); Lean checks it
namespace Go.Proofs.Ytoaijganmfijmaa.Pr
open Go.RowKit Go.Proofs.YtoaijganmfijmaaW.PrintWords Go.Proofs.YtoaijganmfijmaaW.PrintLast Go.Proofs.YtoaijganmfijmaaW.PrintMore
attribute [local go_sem] max2_int min2_int max_two min_two max_three min_three max_four min_four   -- for this text's walks alone

def r05_Same.l0:Nat→List (S41)→List (S41)→Int→Option (Bool)
 | 0,_,_,_=>none
 | k+1,x0,x1,x5=>if x5<(x0.length:Int) then (if 0≤x5 then (if x5<(x1.length:Int) then ((r05_One.f k ((rd_T41 x0 x5).f0) ((rd_T41 x0 x5).f1) ((rd_T41 x0 x5).f2) ((rd_T41 x0 x5).f3) ((rd_T41 x0 x5).f4) ((rd_T41 x1 x5).f0) ((rd_T41 x1 x5).f1) ((rd_T41 x1 x5).f2) ((rd_T41 x1 x5).f3) ((rd_T41 x1 x5).f4)).bind fun t117=>(if t117=true then (r05_Same.l0 k x0 x1 (wrap64 (x5+1))) else (some false))) else (none)) else (none)) else (some true)
def r05_Same.f (k:Nat) (l0:List (S41)) (l1:List (S41)):Option (Bool):=if (l0.length:Int)=(l1.length:Int) then (r05_Same.l0 k l0 l1 0) else (some false)
theorem r05_Same.mono_l:∀ k,(∀ y0 y1 y2,LeO (r05_Same.l0 k y0 y1 y2) (r05_Same.l0 (k+1) y0 y1 y2))
 | 0=>fun _ _ _ r h=>by simp [r05_Same.l0] at h
 | k+1=>by
  have ih0:=r05_Same.mono_l k
  ·intro y0 y1 y2
   unfold r05_Same.l0
   repeat' first
   | (with_reducible exact ih0 _ _ _)
   | (with_reducible exact r05_One.mono _ _ _ _ _ _ _ _ _ _ _)
   | (with_reducible exact LeO.refl _)
   | (with_reducible exact LeO.none _)
   | (with_reducible refine LeO.ite ?_ ?_)
   | (with_reducible refine LeO.bind ?_ (fun _=>?_))
   | exact ih0 _ _ _
   | exact r05_One.mono _ _ _ _ _ _ _ _ _ _ _
   | exact LeO.none _
   | refine LeO.ite ?_ ?_
   | refine LeO.bind ?_ (fun _=>?_)
theorem r05_Same.mono:∀ a0 a1 k,LeO (r05_Same.f k a0 a1) (r05_Same.f (k+1) a0 a1):=by
 intro a0 a1 k
 have ih0:=r05_Same.mono_l k
 unfold r05_Same.f
 repeat' first
   | (with_reducible exact ih0 _ _ _)
   | (with_reducible exact r05_One.mono _ _ _ _ _ _ _ _ _ _ _)
   | (with_reducible exact LeO.refl _)
   | (with_reducible exact LeO.none _)
   | (with_reducible refine LeO.ite ?_ ?_)
   | (with_reducible refine LeO.bind ?_ (fun _=>?_))
   | exact ih0 _ _ _
   | exact r05_One.mono _ _ _ _ _ _ _ _ _ _ _
   | exact LeO.none _
   | refine LeO.ite ?_ ?_
   | refine LeO.bind ?_ (fun _=>?_)
def r05_Same.T6:Bool × List (List Nat × List Nat):=(true,[([],[]),([],[]),([0,1],[0,1]),([2],[2]),([],[]),([],[]),([4,5],[4,5]),([6],[6]),([3,7],[3,7]),([8,8,0,1,2,3,4,5,6,7,8],[8])])
def r05_Same.B6:List Nat:=[0,0,3,7,0,0,48,112,255,511]
theorem r05_Same.tab6:rtab .any (opsOf Try.f17 6)=r05_Same.T6:=by kernel_rfl
theorem r05_Same.bits6:waitsOk r05_Same.T6.2 r05_Same.B6=true:=by kernel_rfl
set_option maxHeartbeats 8000000 in
set_option maxRecDepth 100000 in
theorem r05_Same.calls (k:Nat) (A0:Option Addr) (c0:Nat) (l0:List (S41)) (A1:Option Addr) (c1:Nat) (l1:List (S41)) (r:Bool) (w:World) (hr0:Kd.C k41 w A0 l0.length l0) (hc0:l0.length≤c0) (hr1:Kd.C k41 w A1 l1.length l1) (hc1:l1.length≤c1) (h:r05_Same.f k l0 l1=some r) :
  Calls Try.prog 17 #[.slice A0 l0.length c0,.slice A1 l1.length c1] w fun e w'=>e=.returned (.bool r)∧Below w.heap.size w w':=by
 have hu41:=Try.underlying41
 have HR0:=Aside0.mk hr0
 have HC0:=Aside0.mk hc0
 clear hr0 hc0
 have HR1:=Aside0.mk hr1
 have HC1:=Aside0.mk hc1
 clear hr1 hc1
 have HB:=Aside0.mk (Below.refl w.heap.size w)
 have H:(if (l0.length:Int)=(l1.length:Int) then (r05_Same.l0 k l0 l1 0) else (some false))=some r:=h
 clear h
 by_cases c3:(l0.length:Int)=(l1.length:Int)
 rotate_left
 ·rw [if_neg c3] at H
  have c3b0:((l0.length:Int) == (l1.length:Int))=false:=beq_eq_false_iff_ne.mpr c3
  have c3b1:((l0.length:Int) != (l1.length:Int))=true:=bne_iff_ne.mpr c3
  have c3b2:(l0.length == l1.length)=false:=by first|simpa using c3|(simp at c3 ⊢;omega)
  obtain rfl:=Option.some.inj H
  go_enter Try.func17,Try.ntmps17
  go_wp2
  go_ret
  exact ⟨by first|rfl|(simp [errW_none,errW_some]<;>rfl)|(simp [*,errW_none,errW_some]<;>rfl),bel⟩

 rw [if_pos c3] at H
 have c3b0:((l0.length:Int) == (l1.length:Int))=true:=beq_iff_eq.mpr c3
 have c3b1:((l0.length:Int) != (l1.length:Int))=false:=bne_eq_false_iff_eq.mpr c3
 have c3b2:(l0.length == l1.length)=true:=by first|simpa using c3|(simp at c3 ⊢;omega)
 clear c3
 have H':=Aside0.mk H
 clear H
 go_enter Try.func17,Try.ntmps17
 go_wp2
 go_loopg [5] k (fun kq v5 w'=>∃ (x5_1:Int),v5=.int .i64 x5_1∧Aside0 (r05_Same.l0 kq l0 l1 x5_1=some r)∧Aside0 (kq≤k)∧Aside0 (Below w.heap.size w w'))
 case atStart=>exact ⟨(0),rx,H',⟨Nat.le_refl _⟩,⟨by repeat (first|(with_reducible first|exact HB.out|apply below_alloc|apply pw_below_drewN|apply below_drew1)|exact HB.out)⟩⟩
 case round =>
  clear H'
  try clear c1
  try clear p2
  try clear c3
  try clear c3b0
  try clear c3b1
  try clear c3b2
  obtain ⟨x5_1,rfl,HA,HK1,HB⟩:=hrel
  cases gk with
  | zero=>exact absurd HA.out (by simp [r05_Same.l0])
  | succ k1 =>
   have H:=HA.out
   clear HA
   simp only [r05_Same.l0] at H
   by_cases c4:x5_1<(l0.length:Int)
   rotate_left
   ·rw [if_neg c4] at H
    have c4b0:decide (x5_1<(l0.length:Int))=false:=decide_eq_false c4
    clear c4
    obtain rfl:=Option.some.inj H
    go_wp2
    go_ret
    exact ⟨by first|rfl|(simp [errW_none,errW_some]<;>rfl)|(simp [*,errW_none,errW_some]<;>rfl),bel⟩
   rw [if_pos c4] at H
   have c4b0:decide (x5_1<(l0.length:Int))=true:=decide_eq_true c4
   clear c4
   by_cases c5:0≤x5_1
   rotate_left
   ·rw [if_neg c5] at H
    exact absurd H (by simp)
   rw [if_pos c5] at H
   have c5b0:decide (0≤x5_1)=true:=decide_eq_true c5
   clear c5
   by_cases c6:x5_1<(l1.length:Int)
   rotate_left
   ·rw [if_neg c6] at H
    exact absurd H (by simp)
   rw [if_pos c6] at H
   have c6b0:decide (x5_1<(l1.length:Int))=true:=decide_eq_true c6
   clear c6
   replace H:=Option.bind_eq_some_iff.mp H
   obtain ⟨t117,A70,H⟩:=H
   replace H:(if t117=true then (r05_Same.l0 k1 l0 l1 (wrap64 (x5_1+1))) else (some false))=some r:=H
   have A7:=Aside0.mk A70
   clear A70
   by_cases c8:t117=true
   ·subst c8
    have H1:(r05_Same.l0 k1 l0 l1 (wrap64 (x5_1+1)))=some r:=by rw [if_pos rfl] at H;exact H
    clear H
    have H:=H1
    clear H1
    have H':=Aside0.mk H
    clear H
    try go_wp2
    have n0_:=Aside0.mk (below_drew1 HB.out)
    clear HB
    have HB:=n0_
    clear n0_
    have p115:0≤(x5_1:Int):=of_decide_eq_true asm
    have q115:x5_1<(l0.length:Int):=of_decide_eq_true asm
    obtain ⟨ad115,A115_4,c115_4,e115,hx115_0,hx115_1,hx115_2,hx115_3,hx115_4,hl115_4,hi115_4⟩:=at_T41 HR0.out x5_1 p115 q115
    have hw115_4:=hx115_4
    have hw115_3:=hx115_3
    have hw115_2:=hx115_2
    have hw115_1:=hx115_1
    have hw115_0:=hx115_0
    cases e115
    replace hx115_0:=pw_cell_below HB.out hx115_0
    replace hx115_1:=pw_cell_below HB.out hx115_1
    replace hx115_2:=pw_cell_below HB.out hx115_2
    replace hx115_3:=pw_cell_below HB.out hx115_3
    replace hx115_4:=pw_cell_below HB.out hx115_4
    have HR115_4:=Aside0.mk hi115_4
    have HC115_4:=Aside0.mk hl115_4
    clear hi115_4 hl115_4
    replace p115:=eq_true p115
    replace q115:=eq_true q115
    have p116:0≤(x5_1:Int):=of_decide_eq_true asm
    have q116:x5_1<(l1.length:Int):=of_decide_eq_true asm
    obtain ⟨ad116,A116_4,c116_4,e116,hx116_0,hx116_1,hx116_2,hx116_3,hx116_4,hl116_4,hi116_4⟩:=at_T41 HR1.out x5_1 p116 q116
    have hw116_4:=hx116_4
    have hw116_3:=hx116_3
    have hw116_2:=hx116_2
    have hw116_1:=hx116_1
    have hw116_0:=hx116_0
    cases e116
    replace hx116_0:=pw_cell_below HB.out hx116_0
    replace hx116_1:=pw_cell_below HB.out hx116_1
    replace hx116_2:=pw_cell_below HB.out hx116_2
    replace hx116_3:=pw_cell_below HB.out hx116_3
    replace hx116_4:=pw_cell_below HB.out hx116_4
    have HR116_4:=Aside0.mk hi116_4
    have HC116_4:=Aside0.mk hl116_4
    clear hi116_4 hl116_4
    replace p116:=eq_true p116
    replace q116:=eq_true q116
    refine start_ (n:=10) (S:=fun w'=>w'.cell? (ad115.add ((x5_1).toNat * 5))=some (.int .i64 ((rd_T41 l0 x5_1).f0))∧w'.cell? ⟨(ad115.add ((x5_1).toNat * 5)).block,(ad115.add ((x5_1).toNat * 5)).off+1,none⟩=some (.int .i64 ((rd_T41 l0 x5_1).f1))∧w'.cell? ⟨(ad115.add ((x5_1).toNat * 5)).block,(ad115.add ((x5_1).toNat * 5)).off+2,none⟩=some (.int .i64 ((rd_T41 l0 x5_1).f2))∧w'.cell? ⟨(ad115.add ((x5_1).toNat * 5)).block,(ad115.add ((x5_1).toNat * 5)).off+3,none⟩=some (.int .i64 ((rd_T41 l0 x5_1).f3))∧w'.cell? ⟨(ad115.add ((x5_1).toNat * 5)).block,(ad115.add ((x5_1).toNat * 5)).off+4,none⟩=some (.slice A115_4 ((rd_T41 l0 x5_1).f4).length c115_4)∧w'.cell? (ad116.add ((x5_1).toNat * 5))=some (.int .i64 ((rd_T41 l1 x5_1).f0))∧w'.cell? ⟨(ad116.add ((x5_1).toNat * 5)).block,(ad116.add ((x5_1).toNat * 5)).off+1,none⟩=some (.int .i64 ((rd_T41 l1 x5_1).f1))∧w'.cell? ⟨(ad116.add ((x5_1).toNat * 5)).block,(ad116.add ((x5_1).toNat * 5)).off+2,none⟩=some (.int .i64 ((rd_T41 l1 x5_1).f2))∧w'.cell? ⟨(ad116.add ((x5_1).toNat * 5)).block,(ad116.add ((x5_1).toNat * 5)).off+3,none⟩=some (.int .i64 ((rd_T41 l1 x5_1).f3))∧w'.cell? ⟨(ad116.add ((x5_1).toNat * 5)).block,(ad116.add ((x5_1).toNat * 5)).off+4,none⟩=some (.slice A116_4 ((rd_T41 l1 x5_1).f4).length c116_4)) (ds:=[]) #[false,false,false,false,false,false,false,false,false,false] (by kernel_rfl) rfl rfl ⟨((HB.out.cell (World.block_lt_of_cell? w _ hw115_0)).trans hw115_0),((HB.out.cell (World.block_lt_of_cell? w _ hw115_1)).trans hw115_1),((HB.out.cell (World.block_lt_of_cell? w _ hw115_2)).trans hw115_2),((HB.out.cell (World.block_lt_of_cell? w _ hw115_3)).trans hw115_3),((HB.out.cell (World.block_lt_of_cell? w _ hw115_4)).trans hw115_4),((HB.out.cell (World.block_lt_of_cell? w _ hw116_0)).trans hw116_0),((HB.out.cell (World.block_lt_of_cell? w _ hw116_1)).trans hw116_1),((HB.out.cell (World.block_lt_of_cell? w _ hw116_2)).trans hw116_2),((HB.out.cell (World.block_lt_of_cell? w _ hw116_3)).trans hw116_3),((HB.out.cell (World.block_lt_of_cell? w _ hw116_4)).trans hw116_4)⟩ (fun hHeld=>?_);refine with_tabW r05_Same.tab6 r05_Same.bits6 (fun HT_ HW_=>?_)
    generalize wr.drew=w9 at HB HR115_4 HR116_4 hx115_0 hx115_1 hx115_2 hx115_3 hx115_4 hx116_0 hx116_1 hx116_2 hx116_3 hx116_4 hHeld ⊢
    refine pure_ (i:=0) (N:=some 18) (v:=?_) (a':=?_) #[true,false,false,false,false,false,false,false,false,false] rfl rfl (any_of HT_.out (by kernel_rfl)) (fun _ _ _ h=>h) (Or.inl ⟨by rfl,?_⟩) ?_ ?_
    rotate_left
    ·intro w'
     go_simp
     with_reducible rfl
    rotate_left
    ·simp only [Act.put,List.setIfInBounds_toArray,List.set_cons_zero,List.set_cons_succ,i64_w,i32_w]
     rfl
    refine pure_ (i:=1) (N:=some 19) (v:=?_) (a':=?_) #[true,true,false,false,false,false,false,false,false,false] rfl rfl (any_of HT_.out (by kernel_rfl)) (fun _ _ _ h=>h) (Or.inl ⟨by rfl,?_⟩) ?_ ?_
    rotate_left
    ·intro w'
     go_simp
     with_reducible rfl
    rotate_left
    ·simp only [Act.put,List.setIfInBounds_toArray,List.set_cons_zero,List.set_cons_succ,i64_w,i32_w]
     rfl
    refine pure_ (i:=2) (N:=some 20) (v:=?_) (a':=?_) #[true,true,true,false,false,false,false,false,false,false] rfl rfl (any_of HT_.out (by kernel_rfl)) (fun _ _ _ h=>h) (Or.inl ⟨by rfl,?_⟩) ?_ ?_
    rotate_left
    ·intro w'
     go_simp
     with_reducible rfl
    rotate_left
    ·simp only [Act.put,List.setIfInBounds_toArray,List.set_cons_zero,List.set_cons_succ,i64_w,i32_w]
     rfl
    refine pure_ (i:=4) (N:=some 22) (v:=?_) (a':=?_) #[true,true,true,false,true,false,false,false,false,false] rfl rfl (any_of HT_.out (by kernel_rfl)) (fun _ _ _ h=>h) (Or.inl ⟨by rfl,?_⟩) ?_ ?_
    rotate_left
    ·intro w'
     go_simp
     with_reducible rfl
    rotate_left
    ·simp only [Act.put,List.setIfInBounds_toArray,List.set_cons_zero,List.set_cons_succ,i64_w,i32_w]
     rfl
    refine pure_ (i:=5) (N:=some 23) (v:=?_) (a':=?_) #[true,true,true,false,true,true,false,false,false,false] rfl rfl (any_of HT_.out (by kernel_rfl)) (fun _ _ _ h=>h) (Or.inl ⟨by rfl,?_⟩) ?_ ?_
    rotate_left
    ·intro w'
     go_simp
     with_reducible rfl
    rotate_left
    ·simp only [Act.put,List.setIfInBounds_toArray,List.set_cons_zero,List.set_cons_succ,i64_w,i32_w]
     rfl
    refine pure_ (i:=6) (N:=some 24) (v:=?_) (a':=?_) #[true,true,true,false,true,true,true,false,false,false] rfl rfl (any_of HT_.out (by kernel_rfl)) (fun _ _ _ h=>h) (Or.inl ⟨by rfl,?_⟩) ?_ ?_
    rotate_left
    ·intro w'
     go_simp
     with_reducible rfl
    rotate_left
    ·simp only [Act.put,List.setIfInBounds_toArray,List.set_cons_zero,List.set_cons_succ,i64_w,i32_w]
     rfl
    refine take_ (i:=3) (N:=some 21) (v:=?_) (a':=?_) #[true,true,true,true,true,true,true,false,false,false] rfl rfl (take_ofW HT_.out HW_.out (by kernel_rfl)) (fun _ _ _ h=>h) (Or.inl ⟨by rfl,?_⟩) hHeld ?_ ?_
    rotate_left
    ·rintro w' ⟨s0,s1,s2,s3,s4,s5,s6,s7,s8,s9⟩
     go_simp
     with_reducible rfl
    rotate_left
    ·simp only [Act.put,List.setIfInBounds_toArray,List.set_cons_zero,List.set_cons_succ,i64_w,i32_w]
     rfl
    refine take_ (i:=7) (N:=some 25) (v:=?_) (a':=?_) #[true,true,true,true,true,true,true,true,false,false] rfl rfl (take_ofW HT_.out HW_.out (by kernel_rfl)) (fun _ _ _ h=>h) (Or.inl ⟨by rfl,?_⟩) hHeld ?_ ?_
    rotate_left
    ·rintro w' ⟨s0,s1,s2,s3,s4,s5,s6,s7,s8,s9⟩
     go_simp
     with_reducible rfl
    rotate_left
    ·simp only [Act.put,List.setIfInBounds_toArray,List.set_cons_zero,List.set_cons_succ,i64_w,i32_w]
     rfl
    refine one_ (i:=8) (N:=some 26) #[true,true,true,true,true,true,true,true,true,false] rfl rfl (one_of HT_.out (by kernel_rfl)) (by decide) (fun K hK=>?_)
    refine goes_ Try.func26 (by kernel_rfl) rfl #[.agg #[.int .i64 ((rd_T41 l0 x5_1).f0),.int .i64 ((rd_T41 l0 x5_1).f1),.int .i64 ((rd_T41 l0 x5_1).f2),.int .i64 ((rd_T41 l0 x5_1).f3),.slice A115_4 ((rd_T41 l0 x5_1).f4).length c115_4],.agg #[.int .i64 ((rd_T41 l1 x5_1).f0),.int .i64 ((rd_T41 l1 x5_1).f1),.int .i64 ((rd_T41 l1 x5_1).f2),.int .i64 ((rd_T41 l1 x5_1).f3),.slice A116_4 ((rd_T41 l1 x5_1).f4).length c116_4]] (by rfl) rfl rfl (by (try simp only [List.map_toArray,List.map_cons,List.map_nil]);first|done|rfl|(simp only [List.length_drop,List.length_take];rfl)) ?_
    with_reducible refine (r05_One.calls k1 ((rd_T41 l0 x5_1).f0) ((rd_T41 l0 x5_1).f1) ((rd_T41 l0 x5_1).f2) ((rd_T41 l0 x5_1).f3) _ _ ((rd_T41 l0 x5_1).f4) ((rd_T41 l1 x5_1).f0) ((rd_T41 l1 x5_1).f1) ((rd_T41 l1 x5_1).f2) ((rd_T41 l1 x5_1).f3) _ _ ((rd_T41 l1 x5_1).f4) true _ ?side1 ?side2 ?side3 ?side4 A7.out).mono ?_
    (case side1=>repeat (first|exact (Kd.C_below HR115_4.out HB.out)|(with_reducible refine Kd.C_alloc ?_ _)|(with_reducible refine Kd.C_drewN ?_ _)|(with_reducible refine Kd.C_drew ?_)))
    (case side2=>exact HC115_4.out)
    (case side3=>repeat (first|exact (Kd.C_below HR116_4.out HB.out)|(with_reducible refine Kd.C_alloc ?_ _)|(with_reducible refine Kd.C_drewN ?_ _)|(with_reducible refine Kd.C_drew ?_)))
    (case side4=>exact HC116_4.out)
    rintro e w10 ⟨rfl,hb⟩
    refine ⟨_,rfl,?_⟩
    have n0_:=Aside0.mk (below_step bel hb)
    clear HB
    have HB:=n0_
    clear n0_
    (try clear hb)
    (try clear hb2)
    (try clear hk)
    (try clear hi)
    refine hK.out _ _ ⟨((HB.out.cell (World.block_lt_of_cell? w _ hw115_0)).trans hw115_0),((HB.out.cell (World.block_lt_of_cell? w _ hw115_1)).trans hw115_1),((HB.out.cell (World.block_lt_of_cell? w _ hw115_2)).trans hw115_2),((HB.out.cell (World.block_lt_of_cell? w _ hw115_3)).trans hw115_3),((HB.out.cell (World.block_lt_of_cell? w _ hw115_4)).trans hw115_4),((HB.out.cell (World.block_lt_of_cell? w _ hw116_0)).trans hw116_0),((HB.out.cell (World.block_lt_of_cell? w _ hw116_1)).trans hw116_1),((HB.out.cell (World.block_lt_of_cell? w _ hw116_2)).trans hw116_2),((HB.out.cell (World.block_lt_of_cell? w _ hw116_3)).trans hw116_3),((HB.out.cell (World.block_lt_of_cell? w _ hw116_4)).trans hw116_4)⟩ (fun hHeld=>?_)
    clear hK K
    refine norm_ (a':=?_) ?_ ?_
    rotate_left
    ·show Act.put _ (some 26) _=_
     simp only [Act.put,List.setIfInBounds_toArray,List.set_cons_zero,List.set_cons_succ,i64_w,i32_w]
     rfl
    refine pure_ (i:=9) (N:=some 6) (v:=?_) (a':=?_) #[true,true,true,true,true,true,true,true,true,true] rfl rfl (any_of HT_.out (by kernel_rfl)) (fun _ _ _ h=>h) (Or.inl ⟨by rfl,?_⟩) ?_ ?_
    rotate_left
    ·intro w'
     go_simp
     with_reducible rfl
    rotate_left
    ·simp only [Act.put,List.setIfInBounds_toArray,List.set_cons_zero,List.set_cons_succ,i64_w,i32_w]
     rfl
    refine done_ (done_of HT_.out (by kernel_rfl)) ?_
    try go_wp2
    go_roundg k1
    case measure=>have:=HK1.out;omega
    case rel=>exact ⟨(wrap64 (x5_1+1)),rx,H',⟨by have:=HK1.out;omega⟩,⟨by repeat (first|(with_reducible first|exact HB.out|apply below_alloc|apply pw_below_drewN|apply below_drew1)|exact HB.out)⟩⟩
   replace c8:=Bool.eq_false_iff.mpr c8
   subst c8
   have H1:(some false)=some r:=by rw [if_neg (show ¬ (false=true) by decide)] at H;exact H
   clear H
   have H:=H1
   clear H1
   obtain rfl:=Option.some.inj H
   try go_wp2
   have n0_:=Aside0.mk (below_drew1 HB.out)
   clear HB
   have HB:=n0_
   clear n0_
   have p115:0≤(x5_1:Int):=of_decide_eq_true asm
   have q115:x5_1<(l0.length:Int):=of_decide_eq_true asm
   obtain ⟨ad115,A115_4,c115_4,e115,hx115_0,hx115_1,hx115_2,hx115_3,hx115_4,hl115_4,hi115_4⟩:=at_T41 HR0.out x5_1 p115 q115
   have hw115_4:=hx115_4
   have hw115_3:=hx115_3
   have hw115_2:=hx115_2
   have hw115_1:=hx115_1
   have hw115_0:=hx115_0
   cases e115
   replace hx115_0:=pw_cell_below HB.out hx115_0
   replace hx115_1:=pw_cell_below HB.out hx115_1
   replace hx115_2:=pw_cell_below HB.out hx115_2
   replace hx115_3:=pw_cell_below HB.out hx115_3
   replace hx115_4:=pw_cell_below HB.out hx115_4
   have HR115_4:=Aside0.mk hi115_4
   have HC115_4:=Aside0.mk hl115_4
   clear hi115_4 hl115_4
   replace p115:=eq_true p115
   replace q115:=eq_true q115
   have p116:0≤(x5_1:Int):=of_decide_eq_true asm
   have q116:x5_1<(l1.length:Int):=of_decide_eq_true asm
   obtain ⟨ad116,A116_4,c116_4,e116,hx116_0,hx116_1,hx116_2,hx116_3,hx116_4,hl116_4,hi116_4⟩:=at_T41 HR1.out x5_1 p116 q116
   have hw116_4:=hx116_4
   have hw116_3:=hx116_3
   have hw116_2:=hx116_2
   have hw116_1:=hx116_1
   have hw116_0:=hx116_0
   cases e116
   replace hx116_0:=pw_cell_below HB.out hx116_0
   replace hx116_1:=pw_cell_below HB.out hx116_1
   replace hx116_2:=pw_cell_below HB.out hx116_2
   replace hx116_3:=pw_cell_below HB.out hx116_3
   replace hx116_4:=pw_cell_below HB.out hx116_4
   have HR116_4:=Aside0.mk hi116_4
   have HC116_4:=Aside0.mk hl116_4
   clear hi116_4 hl116_4
   replace p116:=eq_true p116
   replace q116:=eq_true q116
   refine start_ (n:=10) (S:=fun w'=>w'.cell? (ad115.add ((x5_1).toNat * 5))=some (.int .i64 ((rd_T41 l0 x5_1).f0))∧w'.cell? ⟨(ad115.add ((x5_1).toNat * 5)).block,(ad115.add ((x5_1).toNat * 5)).off+1,none⟩=some (.int .i64 ((rd_T41 l0 x5_1).f1))∧w'.cell? ⟨(ad115.add ((x5_1).toNat * 5)).block,(ad115.add ((x5_1).toNat * 5)).off+2,none⟩=some (.int .i64 ((rd_T41 l0 x5_1).f2))∧w'.cell? ⟨(ad115.add ((x5_1).toNat * 5)).block,(ad115.add ((x5_1).toNat * 5)).off+3,none⟩=some (.int .i64 ((rd_T41 l0 x5_1).f3))∧w'.cell? ⟨(ad115.add ((x5_1).toNat * 5)).block,(ad115.add ((x5_1).toNat * 5)).off+4,none⟩=some (.slice A115_4 ((rd_T41 l0 x5_1).f4).length c115_4)∧w'.cell? (ad116.add ((x5_1).toNat * 5))=some (.int .i64 ((rd_T41 l1 x5_1).f0))∧w'.cell? ⟨(ad116.add ((x5_1).toNat * 5)).block,(ad116.add ((x5_1).toNat * 5)).off+1,none⟩=some (.int .i64 ((rd_T41 l1 x5_1).f1))∧w'.cell? ⟨(ad116.add ((x5_1).toNat * 5)).block,(ad116.add ((x5_1).toNat * 5)).off+2,none⟩=some (.int .i64 ((rd_T41 l1 x5_1).f2))∧w'.cell? ⟨(ad116.add ((x5_1).toNat * 5)).block,(ad116.add ((x5_1).toNat * 5)).off+3,none⟩=some (.int .i64 ((rd_T41 l1 x5_1).f3))∧w'.cell? ⟨(ad116.add ((x5_1).toNat * 5)).block,(ad116.add ((x5_1).toNat * 5)).off+4,none⟩=some (.slice A116_4 ((rd_T41 l1 x5_1).f4).length c116_4)) (ds:=[]) #[false,false,false,false,false,false,false,false,false,false] (by kernel_rfl) rfl rfl ⟨((HB.out.cell (World.block_lt_of_cell? w _ hw115_0)).trans hw115_0),((HB.out.cell (World.block_lt_of_cell? w _ hw115_1)).trans hw115_1),((HB.out.cell (World.block_lt_of_cell? w _ hw115_2)).trans hw115_2),((HB.out.cell (World.block_lt_of_cell? w _ hw115_3)).trans hw115_3),((HB.out.cell (World.block_lt_of_cell? w _ hw115_4)).trans hw115_4),((HB.out.cell (World.block_lt_of_cell? w _ hw116_0)).trans hw116_0),((HB.out.cell (World.block_lt_of_cell? w _ hw116_1)).trans hw116_1),((HB.out.cell (World.block_lt_of_cell? w _ hw116_2)).trans hw116_2),((HB.out.cell (World.block_lt_of_cell? w _ hw116_3)).trans hw116_3),((HB.out.cell (World.block_lt_of_cell? w _ hw116_4)).trans hw116_4)⟩ (fun hHeld=>?_);refine with_tabW r05_Same.tab6 r05_Same.bits6 (fun HT_ HW_=>?_)
   generalize wr.drew=w11 at HB HR115_4 HR116_4 hx115_0 hx115_1 hx115_2 hx115_3 hx115_4 hx116_0 hx116_1 hx116_2 hx116_3 hx116_4 hHeld ⊢
   refine pure_ (i:=0) (N:=some 18) (v:=?_) (a':=?_) #[true,false,false,false,false,false,false,false,false,false] rfl rfl (any_of HT_.out (by kernel_rfl)) (fun _ _ _ h=>h) (Or.inl ⟨by rfl,?_⟩) ?_ ?_
   rotate_left
   ·intro w'
    go_simp
    with_reducible rfl
   rotate_left
   ·simp only [Act.put,List.setIfInBounds_toArray,List.set_cons_zero,List.set_cons_succ,i64_w,i32_w]
    rfl
   refine pure_ (i:=1) (N:=some 19) (v:=?_) (a':=?_) #[true,true,false,false,false,false,false,false,false,false] rfl rfl (any_of HT_.out (by kernel_rfl)) (fun _ _ _ h=>h) (Or.inl ⟨by rfl,?_⟩) ?_ ?_
   rotate_left
   ·intro w'
    go_simp
    with_reducible rfl
   rotate_left
   ·simp only [Act.put,List.setIfInBounds_toArray,List.set_cons_zero,List.set_cons_succ,i64_w,i32_w]
    rfl
   refine pure_ (i:=2) (N:=some 20) (v:=?_) (a':=?_) #[true,true,true,false,false,false,false,false,false,false] rfl rfl (any_of HT_.out (by kernel_rfl)) (fun _ _ _ h=>h) (Or.inl ⟨by rfl,?_⟩) ?_ ?_
   rotate_left
   ·intro w'
    go_simp
    with_reducible rfl
   rotate_left
   ·simp only [Act.put,List.setIfInBounds_toArray,List.set_cons_zero,List.set_cons_succ,i64_w,i32_w]
    rfl
   refine pure_ (i:=4) (N:=some 22) (v:=?_) (a':=?_) #[true,true,true,false,true,false,false,false,false,false] rfl rfl (any_of HT_.out (by kernel_rfl)) (fun _ _ _ h=>h) (Or.inl ⟨by rfl,?_⟩) ?_ ?_
   rotate_left
   ·intro w'
    go_simp
    with_reducible rfl
   rotate_left
   ·simp only [Act.put,List.setIfInBounds_toArray,List.set_cons_zero,List.set_cons_succ,i64_w,i32_w]
    rfl
   refine pure_ (i:=5) (N:=some 23) (v:=?_) (a':=?_) #[true,true,true,false,true,true,false,false,false,false] rfl rfl (any_of HT_.out (by kernel_rfl)) (fun _ _ _ h=>h) (Or.inl ⟨by rfl,?_⟩) ?_ ?_
   rotate_left
   ·intro w'
    go_simp
    with_reducible rfl
   rotate_left
   ·simp only [Act.put,List.setIfInBounds_toArray,List.set_cons_zero,List.set_cons_succ,i64_w,i32_w]
    rfl
   refine pure_ (i:=6) (N:=some 24) (v:=?_) (a':=?_) #[true,true,true,false,true,true,true,false,false,false] rfl rfl (any_of HT_.out (by kernel_rfl)) (fun _ _ _ h=>h) (Or.inl ⟨by rfl,?_⟩) ?_ ?_
   rotate_left
   ·intro w'
    go_simp
    with_reducible rfl
   rotate_left
   ·simp only [Act.put,List.setIfInBounds_toArray,List.set_cons_zero,List.set_cons_succ,i64_w,i32_w]
    rfl
   refine take_ (i:=3) (N:=some 21) (v:=?_) (a':=?_) #[true,true,true,true,true,true,true,false,false,false] rfl rfl (take_ofW HT_.out HW_.out (by kernel_rfl)) (fun _ _ _ h=>h) (Or.inl ⟨by rfl,?_⟩) hHeld ?_ ?_
   rotate_left
   ·rintro w' ⟨s0,s1,s2,s3,s4,s5,s6,s7,s8,s9⟩
    go_simp
    with_reducible rfl
   rotate_left
   ·simp only [Act.put,List.setIfInBounds_toArray,List.set_cons_zero,List.set_cons_succ,i64_w,i32_w]
    rfl
   refine take_ (i:=7) (N:=some 25) (v:=?_) (a':=?_) #[true,true,true,true,true,true,true,true,false,false] rfl rfl (take_ofW HT_.out HW_.out (by kernel_rfl)) (fun _ _ _ h=>h) (Or.inl ⟨by rfl,?_⟩) hHeld ?_ ?_
   rotate_left
   ·rintro w' ⟨s0,s1,s2,s3,s4,s5,s6,s7,s8,s9⟩
    go_simp
    with_reducible rfl
   rotate_left
   ·simp only [Act.put,List.setIfInBounds_toArray,List.set_cons_zero,List.set_cons_succ,i64_w,i32_w]
    rfl
   refine one_ (i:=8) (N:=some 26) #[true,true,true,true,true,true,true,true,true,false] rfl rfl (one_of HT_.out (by kernel_rfl)) (by decide) (fun K hK=>?_)
   refine goes_ Try.func26 (by kernel_rfl) rfl #[.agg #[.int .i64 ((rd_T41 l0 x5_1).f0),.int .i64 ((rd_T41 l0 x5_1).f1),.int .i64 ((rd_T41 l0 x5_1).f2),.int .i64 ((rd_T41 l0 x5_1).f3),.slice A115_4 ((rd_T41 l0 x5_1).f4).length c115_4],.agg #[.int .i64 ((rd_T41 l1 x5_1).f0),.int .i64 ((rd_T41 l1 x5_1).f1),.int .i64 ((rd_T41 l1 x5_1).f2),.int .i64 ((rd_T41 l1 x5_1).f3),.slice A116_4 ((rd_T41 l1 x5_1).f4).length c116_4]] (by rfl) rfl rfl (by (try simp only [List.map_toArray,List.map_cons,List.map_nil]);first|done|rfl|(simp only [List.length_drop,List.length_take];rfl)) ?_
   with_reducible refine (r05_One.calls k1 ((rd_T41 l0 x5_1).f0) ((rd_T41 l0 x5_1).f1) ((rd_T41 l0 x5_1).f2) ((rd_T41 l0 x5_1).f3) _ _ ((rd_T41 l0 x5_1).f4) ((rd_T41 l1 x5_1).f0) ((rd_T41 l1 x5_1).f1) ((rd_T41 l1 x5_1).f2) ((rd_T41 l1 x5_1).f3) _ _ ((rd_T41 l1 x5_1).f4) false _ ?side1 ?side2 ?side3 ?side4 A7.out).mono ?_
   (case side1=>repeat (first|exact (Kd.C_below HR115_4.out HB.out)|(with_reducible refine Kd.C_alloc ?_ _)|(with_reducible refine Kd.C_drewN ?_ _)|(with_reducible refine Kd.C_drew ?_)))
   (case side2=>exact HC115_4.out)
   (case side3=>repeat (first|exact (Kd.C_below HR116_4.out HB.out)|(with_reducible refine Kd.C_alloc ?_ _)|(with_reducible refine Kd.C_drewN ?_ _)|(with_reducible refine Kd.C_drew ?_)))
   (case side4=>exact HC116_4.out)
   rintro e w12 ⟨rfl,hb⟩
   refine ⟨_,rfl,?_⟩
   have n0_:=Aside0.mk (below_step bel hb)
   clear HB
   have HB:=n0_
   clear n0_
   (try clear hb)
   (try clear hb2)
   (try clear hk)
   (try clear hi)
   refine hK.out _ _ ⟨((HB.out.cell (World.block_lt_of_cell? w _ hw115_0)).trans hw115_0),((HB.out.cell (World.block_lt_of_cell? w _ hw115_1)).trans hw115_1),((HB.out.cell (World.block_lt_of_cell? w _ hw115_2)).trans hw115_2),((HB.out.cell (World.block_lt_of_cell? w _ hw115_3)).trans hw115_3),((HB.out.cell (World.block_lt_of_cell? w _ hw115_4)).trans hw115_4),((HB.out.cell (World.block_lt_of_cell? w _ hw116_0)).trans hw116_0),((HB.out.cell (World.block_lt_of_cell? w _ hw116_1)).trans hw116_1),((HB.out.cell (World.block_lt_of_cell? w _ hw116_2)).trans hw116_2),((HB.out.cell (World.block_lt_of_cell? w _ hw116_3)).trans hw116_3),((HB.out.cell (World.block_lt_of_cell? w _ hw116_4)).trans hw116_4)⟩ (fun hHeld=>?_)
   clear hK K
   refine norm_ (a':=?_) ?_ ?_
   rotate_left
   ·show Act.put _ (some 26) _=_
    simp only [Act.put,List.setIfInBounds_toArray,List.set_cons_zero,List.set_cons_succ,i64_w,i32_w]
    rfl
   refine pure_ (i:=9) (N:=some 6) (v:=?_) (a':=?_) #[true,true,true,true,true,true,true,true,true,true] rfl rfl (any_of HT_.out (by kernel_rfl)) (fun _ _ _ h=>h) (Or.inl ⟨by rfl,?_⟩) ?_ ?_
   rotate_left
   ·intro w'
    go_simp
    with_reducible rfl
   rotate_left
   ·simp only [Act.put,List.setIfInBounds_toArray,List.set_cons_zero,List.set_cons_succ,i64_w,i32_w]
    rfl
   refine done_ (done_of HT_.out (by kernel_rfl)) ?_
   try go_wp2
   go_ret
   exact ⟨by first|rfl|(simp [errW_none,errW_some]<;>rfl)|(simp [*,errW_none,errW_some]<;>rfl),bel⟩
end Go.Proofs.Ytoaijganmfijmaa.Pr
-- shrunk
/-
The document's Same of hunks: a list is the same as itself; what is read of a list of hunks.
-/
namespace Go.Proofs.Ytoaijganmfijmaa.Pr
open Go.RowKit Go.Proofs.YtoaijganmfijmaaW.PrintWords Go.Proofs.YtoaijganmfijmaaW.PrintLast Go.Proofs.YtoaijganmfijmaaW.PrintMore
theorem OneS_ev (h:Hk) (hl:h.f4.length≤4611686018427387904):Ev (fun k=>r05_One.f k h.f0 h.f1 h.f2 h.f3 h.f4 h.f0 h.f1 h.f2 h.f3 h.f4) true:=by
 unfold r05_One.f
 simp only [if_true]
 have h2:=Texts_ev h.f4 h.f4 hl
 rw [decide_eq_true rfl] at h2
 refine Ev.bind h2 ?_
 exact Ev.now _
theorem rdH_at {xs:List Hk} {i:Nat} (h:i<xs.length):rd_T41 xs (i:Int)=xs[i]:=by
 rw [rd_T41,Int.toNat_natCast,List.getD_eq_getElem?_getD,List.getElem?_eq_getElem h,Option.getD_some]
theorem SameH_l0 (a:List Hk) (hn:a.length≤4611686018427387904) (hl:∀ h ∈ a,h.f4.length≤4611686018427387904):∀ d i,a.length - i=d→i≤a.length→Ev (fun k=>r05_Same.l0 k a a (i:Int)) true:=by
 intro d
 induction d with
 | zero =>
  intro i hd hi
  refine Ev.step (fun _=>r05_Same.l0.eq_2 ..) ?_
  simp only [if_neg (show ¬ (i:Int)<(a.length:Int) by omega)]
  exact Ev.now _
 | succ d ih =>
  intro i hd hi
  refine Ev.step (fun _=>r05_Same.l0.eq_2 ..) ?_
  have h0:i<a.length:=by omega
  simp only [if_pos (show (i:Int)<(a.length:Int) by omega),if_pos (show 0≤(i:Int) by omega),rdH_at h0,w_succ h0 hn]
  refine Ev.bind (OneS_ev _ (hl _ (List.getElem_mem h0))) ?_
  simp only [if_true]
  exact ih (i+1) (by omega) (by omega)
theorem SameH_ev (a:List Hk) (hn:a.length≤4611686018427387904) (hl:∀ h ∈ a,h.f4.length≤4611686018427387904):Ev (fun k=>r05_Same.f k a a) true:=by
 unfold r05_Same.f
 simp only [if_true]
 exact SameH_l0 a hn hl _ 0 rfl (by omega)
end Go.Proofs.Ytoaijganmfijmaa.Pr
-- shrunk
/-
The law HunkMakes answers true: the plain part.
-/
namespace Go.Proofs.Ytoaijganmfijmaa.Pr
open Go.RowKit Go.Proofs.YtoaijganmfijmaaW.PrintWords Go.Proofs.YtoaijganmfijmaaW.PrintLast Go.Proofs.YtoaijganmfijmaaW.PrintMore
theorem makeH_sizes (a:List ByteArray) (ar:Int) (har:0≤ar):∀ (N:Nat) (l:List Ed) (more fr:Int),l.length≤N→0≤fr→okFrom fr a.length l=true→(makeH a ar more l).length≤l.length∧∀ h ∈ makeH a ar more l,h.f4.length≤3 * a.length+insE l:=by
 intro N
 induction N with
 | zero =>
  intro l more fr hN hf ho
  have hl:l=[]:=List.eq_nil_of_length_eq_zero (by omega)
  subst hl
  rw [makeH];simp
 | succ N ih =>
  intro l more fr hN hf ho
  cases l with
  | nil=>rw [makeH];simp
  | cons p l =>
   have hga:=grp_app ar l p
   have hgl:=grp_len ar l p
   have ho2:=ho
   rw [← hga] at ho2
   have hsp:=okFrom_split _ _ _ _ ho2
   have hla:=okFrom_last _ _ _ hsp.1
   obtain ⟨c1,c2,c3,c4,c5,ho'⟩:=okFrom_cons hsp.1
   have ho0:okFrom p.f0 a.length (p :: (grp ar p l).1)=true:=by
    simp only [okFrom,Bool.and_eq_true,decide_eq_true_eq]
    exact ⟨⟨Int.le_refl _,c2,c3,c4,c5⟩,ho'⟩
   have hft:(fromH p ar:Int)≤p.f0:=by unfold fromH;omega
   have hco:=blks_counts a (grp ar p l).1 p p.f0 (fromH p ar) hft ho0
   have htl:=tail_len a ar p (grp ar p l).1 fr har hf hsp.1
   have hin:insE l=insE (grp ar p l).1+insE (grp ar p l).2:=by rw [← insE_app,hga]
   have hdi:diffE (p :: (grp ar p l).1)≤insE (p :: (grp ar p l).1):=by
    have h:=diffE_bd (p :: (grp ar p l).1) p.f0 (p :: (grp ar p l).1).length (by omega) ho0
    rw [List.take_length] at h
    exact h.2
   simp only [insE] at hdi ⊢
   have h1:=ih (grp ar p l).2 (more+diffE (p :: (grp ar p l).1)) (endE p (grp ar p l).1+1) (by simp only [List.length_cons] at hN;omega) (by omega) hsp.2
   rw [makeH]
   refine ⟨by simp only [List.length_cons];omega,fun h hm=>?_⟩
   rcases List.mem_cons.1 hm with rfl|hm
   ·show (linesH a ar p (grp ar p l).1).length≤_
    have h:=blkLines_len (blks a (fromH p ar) (p :: (grp ar p l).1)) ((a.take (toH a p (grp ar p l).1 ar)).drop (endE p (grp ar p l).1).toNat)
    unfold linesH
    omega
   have:=h1.2 h hm
   omega
theorem Make_bad (a:List ByteArray) (l:List Ed) (ar:Int) (ha:a.length≤274877906944) (hl:l.length≤274877906944) (hb:¬ (okFrom 0 a.length l=true∧0≤ar∧ar≤1000)):Ev (fun k=>hunk_Make.f k a l ar) ([],1):=by
 unfold hunk_Make.f
 have jt:Ev (fun k=>hunk_Make.j0 k a l ar true) ([],1):=by
  refine Ev.step (fun _=>hunk_Make.j0.eq_2 ..) ?_
  exact Ev.now _
 refine Ev.bind (Right_ev (a.length:Int) l (by omega) (by omega) (by omega)) ?_
 cases hr:okFrom 0 (a.length:Int) l with
 | false =>
  simp only [Bool.false_eq_true,if_false]
  exact jt
 | true =>
  simp only [if_true]
  by_cases h1:ar<0
  ·simp only [if_pos h1];exact jt
  simp only [if_neg h1]
  rw [decide_eq_true (show ar > 1000 from by
   rcases Int.lt_or_le 1000 ar with h|h
   ·exact h
   exact absurd ⟨hr,by omega,h⟩ hb)]
  exact jt
end Go.Proofs.Ytoaijganmfijmaa.Pr
-- shrunk
/-
What hunks make of lines, in plain Lean; what hunks that are right have.
-/
namespace Go.Proofs.Ytoaijganmfijmaa.Pr
open Go.RowKit Go.Proofs.YtoaijganmfijmaaW.PrintWords Go.Proofs.YtoaijganmfijmaaW.PrintLast Go.Proofs.YtoaijganmfijmaaW.PrintMore
def lineP (a:List ByteArray):Nat→List ByteArray→List ByteArray→Option (List ByteArray × Nat)
 | at_,out,[]=>some (out,at_)
 | at_,out,s :: ls =>
  if bt s 0=43 then lineP a at_ (out++[tl s]) ls
  else if a[at_]?=some (tl s) then lineP a (at_+1) (if bt s 0=45 then out else out++[tl s]) ls
  else none
def oneP (a:List ByteArray) (done:Nat) (A:Int) (L:List ByteArray) (out:List ByteArray):Option (List ByteArray × Nat) :=
 if A≤a.length then lineP a A.toNat (out++(a.take A.toNat).drop done) L else none
def allP (a:List ByteArray):Nat→List ByteArray→List Hk→Option (List ByteArray × Nat)
 | d,o,[]=>some (o,d)
 | d,o,h :: hs=>match oneP a d h.f0 h.f4 o with
  | none=>none
  | some (o',d')=>allP a d' o' hs
def rightP:Int→Int→List Hk→Bool
 | _,_,[]=>true
 | en,more,h :: hs=>rightL h.f0 h.f1 h.f2 h.f3 h.f4 && decide (en≤h.f0) && decide (h.f2=h.f0+more) && rightP (h.f0+h.f1) (more+h.f3 - h.f1) hs
def applyP (a:List ByteArray) (l:List Hk):List ByteArray × Int :=
 if rightP 0 0 l=true then match allP a 0 [] l with
  | none=>([],6)
  | some (o,d)=>(o++a.drop d,0)
 else ([],3)
def SmallA (a:List ByteArray) (l:List Hk):Prop:=a.length≤65536∧l.length≤1024∧∀ h ∈ l,h.f4.length≤65536 ∧ -1099511627776≤h.f0∧h.f0≤1099511627776 ∧ -1099511627776≤h.f2∧h.f2≤1099511627776
instance (a:List ByteArray) (l:List Hk):Decidable (SmallA a l):=by unfold SmallA;exact inferInstance
theorem okL_size:∀ (l:List ByteArray) (came:Bool),okL came l=true→∀ s ∈ l,0<s.size
 | [],_,_,s,h=>absurd h (by simp)
 | x :: l,came,h,s,hs=>by
  rw [okL,Bool.and_eq_true,decide_eq_true_eq] at h
  rcases List.mem_cons.1 hs with rfl|hs
  ·exact h.1.1
  ·exact okL_size l _ h.2 s hs
theorem lineP_at (a:List ByteArray):∀ (l:List ByteArray) (came:Bool) (t:Nat) (out o:List ByteArray) (p:Nat),okL came l=true→lineP a t out l=some (o,p)→p=t+manyL 45 l
 | [],came,t,out,o,p,_,h=>by
  rw [lineP] at h
  simp only [Option.some.injEq,Prod.mk.injEq] at h
  rw [manyL];omega
 | s :: l,came,t,out,o,p,hk,h=>by
  rw [okL,Bool.and_eq_true,decide_eq_true_eq] at hk
  rw [lineP] at h
  by_cases c:bt s 0=43
  ·rw [if_pos c] at h
   have:=lineP_at a l _ t _ o p hk.2 h
   rw [manyL,if_neg (by rintro ⟨_,h|h⟩<;>omega)];omega
  ·rw [if_neg c] at h
   by_cases c2:a[t]?=some (tl s)
   ·rw [if_pos c2] at h
    have:=lineP_at a l _ (t+1) _ o p hk.2 h
    rw [manyL,if_pos ⟨hk.1.1,by omega⟩];omega
   ·rw [if_neg c2] at h;cases h
theorem lineP_le (a:List ByteArray):∀ (l:List ByteArray) (t:Nat) (out o:List ByteArray) (p:Nat),t≤a.length→lineP a t out l=some (o,p)→p≤a.length∧o.length≤out.length+l.length
 | [],t,out,o,p,ht,h=>by
  rw [lineP] at h
  simp only [Option.some.injEq,Prod.mk.injEq] at h
  obtain ⟨rfl,rfl⟩:=h
  exact ⟨ht,by omega⟩
 | s :: l,t,out,o,p,ht,h=>by
  rw [lineP] at h
  by_cases c:bt s 0=43
  ·rw [if_pos c] at h
   have:=lineP_le a l t _ o p ht h
   rw [List.length_append,List.length_singleton] at this
   rw [List.length_cons];omega
  ·rw [if_neg c] at h
   by_cases c2:a[t]?=some (tl s)
   ·rw [if_pos c2] at h
    have hlt:t<a.length:=by
     rcases Nat.lt_or_ge t a.length with h|h
     ·exact h
     ·rw [List.getElem?_eq_none h] at c2;cases c2
    have:=lineP_le a l (t+1) _ o p (by omega) h
    rw [List.length_cons]
    split at this
    ·omega
    ·rw [List.length_append,List.length_singleton] at this;omega
   ·rw [if_neg c2] at h;cases h
theorem oneP_some {a:List ByteArray} {d:Nat} {A An B Bn:Int} {L out o:List ByteArray} {p:Nat} (hr:rightL A An B Bn L=true) (h:oneP a d A L out=some (o,p)):(p:Int)=A+An∧p≤a.length∧o.length≤out.length+a.length+L.length:=by
 unfold rightL at hr
 rw [decide_eq_true_eq] at hr
 unfold oneP at h
 by_cases c:A≤a.length
 rotate_left
 ·rw [if_neg c] at h;cases h
 rw [if_pos c] at h
 have h1:=lineP_at a L false _ _ o p hr.1 h
 have h2:=lineP_le a L _ _ o p (by omega) h
 rw [List.length_append,List.length_drop,List.length_take] at h2
 omega
theorem rightL_size {A An B Bn:Int} {L:List ByteArray} (hr:rightL A An B Bn L=true):(∀ s ∈ L,0<s.size)∧0≤A∧0≤B∧An=manyL 45 L∧Bn=manyL 43 L:=by
 unfold rightL at hr
 rw [decide_eq_true_eq] at hr
 exact ⟨okL_size L _ hr.1,hr.2⟩
end Go.Proofs.Ytoaijganmfijmaa.Pr
-- shrunk
/-
Hunks that take one list to another one: what they make of lines, in plain Lean.
-/
namespace Go.Proofs.Ytoaijganmfijmaa.Pr
open Go.RowKit Go.Proofs.YtoaijganmfijmaaW.PrintWords Go.Proofs.YtoaijganmfijmaaW.PrintLast Go.Proofs.YtoaijganmfijmaaW.PrintMore
def oldL:List Blk→List ByteArray→List ByteArray
 | [],t=>t
 | b :: bs,t=>b.k++(b.d++oldL bs t)
def newL:List Blk→List ByteArray→List ByteArray
 | [],t=>t
 | b :: bs,t=>b.k++(b.i++newL bs t)
theorem oldL_len:∀ (bs:List Blk) (t:List ByteArray),(oldL bs t).length=oldN bs+t.length
 | [],t=>by simp [oldL,oldN]
 | b :: bs,t=>by simp only [oldL,oldN,List.length_append,oldL_len bs t];omega
theorem newL_len:∀ (bs:List Blk) (t:List ByteArray),(newL bs t).length=newN bs+t.length
 | [],t=>by simp [newL,newN]
 | b :: bs,t=>by simp only [newL,newN,List.length_append,newL_len bs t];omega
theorem oldL_swap:∀ (bs:List Blk) (t:List ByteArray),oldL (bs.map swapB) t=newL bs t
 | [],t=>rfl
 | b :: bs,t=>by simp only [List.map_cons,oldL,newL,swapB,oldL_swap bs t]
theorem newL_swap:∀ (bs:List Blk) (t:List ByteArray),newL (bs.map swapB) t=oldL bs t
 | [],t=>rfl
 | b :: bs,t=>by simp only [List.map_cons,oldL,newL,swapB,newL_swap bs t]
theorem pre_cons (a:List ByteArray) (p:Nat) (s:ByteArray) (k:List ByteArray):(s :: k) <+: a.drop p ↔ a[p]?=some s∧k <+: a.drop (p+1):=by
 rcases Nat.lt_or_ge p a.length with h|h
 ·rw [List.drop_eq_getElem_cons h,List.cons_prefix_cons,List.getElem?_eq_getElem h,Option.some.injEq]
  exact ⟨fun h=>⟨h.1.symm,h.2⟩,fun h=>⟨h.1.symm,h.2⟩⟩
 rw [List.drop_of_length_le h,List.getElem?_eq_none h]
 constructor
 ·intro h;exact absurd h (by simp)
 intro h;cases h.1
theorem pre_app (a:List ByteArray):∀ (x:List ByteArray) (p:Nat) (y:List ByteArray),(x++y) <+: a.drop p ↔ x <+: a.drop p∧y <+: a.drop (p+x.length)
 | [],p,y=>by simp
 | s :: x,p,y=>by
  rw [List.cons_append,pre_cons,pre_cons,pre_app a x,List.length_cons,and_assoc,show p+1+x.length=p+(x.length+1) by omega]
theorem lineP_32 (a:List ByteArray):∀ (k R:List ByteArray) (p:Nat) (out:List ByteArray),(k <+: a.drop p→lineP a p out (sgs 32 k++R)=lineP a (p+k.length) (out++k) R)∧(¬ k <+: a.drop p→lineP a p out (sgs 32 k++R)=none)
 | [],R,p,out=>⟨fun _=>by rw [List.append_nil];rfl,fun h=>absurd (List.nil_prefix) h⟩
 | s :: k,R,p,out=>by
  show (_→lineP a p out (sg 32 s :: (sgs 32 k++R))=_)∧(_→lineP a p out (sg 32 s :: (sgs 32 k++R))=_)
  have hb:bt (sg 32 s) 0=32:=sg_bt 32 s
  rw [lineP,hb,if_neg (show ¬ (32:Int)=43 by decide),if_neg (show ¬ (32:Int)=45 by decide),tl_sg,pre_cons]
  have ih:=lineP_32 a k R (p+1) (out++[s])
  by_cases c:a[p]?=some s
  ·rw [if_pos c]
   refine ⟨fun h=>?_,fun h=>ih.2 (fun h2=>h ⟨c,h2⟩)⟩
   rw [ih.1 h.2,List.append_assoc,List.length_cons,show p+1+k.length=p+(k.length+1) by omega];rfl
  ·rw [if_neg c]
   exact ⟨fun h=>absurd h.1 c,fun _=>rfl⟩
theorem lineP_45 (a:List ByteArray):∀ (k R:List ByteArray) (p:Nat) (out:List ByteArray),(k <+: a.drop p→lineP a p out (sgs 45 k++R)=lineP a (p+k.length) out R)∧(¬ k <+: a.drop p→lineP a p out (sgs 45 k++R)=none)
 | [],R,p,out=>⟨fun _=>rfl,fun h=>absurd (List.nil_prefix) h⟩
 | s :: k,R,p,out=>by
  show (_→lineP a p out (sg 45 s :: (sgs 45 k++R))=_)∧(_→lineP a p out (sg 45 s :: (sgs 45 k++R))=_)
  have hb:bt (sg 45 s) 0=45:=sg_bt 45 s
  rw [lineP,hb,if_neg (show ¬ (45:Int)=43 by decide),if_pos (show (45:Int)=45 from rfl),tl_sg,pre_cons]
  have ih:=lineP_45 a k R (p+1) out
  by_cases c:a[p]?=some s
  ·rw [if_pos c]
   refine ⟨fun h=>?_,fun h=>ih.2 (fun h2=>h ⟨c,h2⟩)⟩
   rw [ih.1 h.2,List.length_cons,show p+1+k.length=p+(k.length+1) by omega]
  ·rw [if_neg c]
   exact ⟨fun h=>absurd h.1 c,fun _=>rfl⟩
theorem lineP_43 (a:List ByteArray):∀ (k R:List ByteArray) (p:Nat) (out:List ByteArray),lineP a p out (sgs 43 k++R)=lineP a p (out++k) R
 | [],R,p,out=>by rw [List.append_nil];rfl
 | s :: k,R,p,out=>by
  show lineP a p out (sg 43 s :: (sgs 43 k++R))=_
  have hb:bt (sg 43 s) 0=43:=sg_bt 43 s
  rw [lineP,hb,if_pos rfl,tl_sg,lineP_43 a k R,List.append_assoc];rfl
theorem lineP_blk (a:List ByteArray):∀ (bs:List Blk) (t:List ByteArray) (p:Nat) (out:List ByteArray),
  (oldL bs t <+: a.drop p→lineP a p out (blkLines bs t)=some (out++newL bs t,p+(oldN bs+t.length)))∧(¬ oldL bs t <+: a.drop p→lineP a p out (blkLines bs t)=none)
 | [],t,p,out=>by
  have h:=lineP_32 a t [] p out
  rw [List.append_nil] at h
  simp only [oldL,newL,blkLines,oldN,Nat.zero_add]
  exact h
 | b :: bs,t,p,out=>by
  simp only [oldL,newL,blkLines,oldN]
  rw [pre_app,pre_app]
  have h1:=lineP_32 a b.k (sgs 45 b.d++(sgs 43 b.i++blkLines bs t)) p out
  have h2:=lineP_45 a b.d (sgs 43 b.i++blkLines bs t) (p+b.k.length) (out++b.k)
  have h3:=lineP_43 a b.i (blkLines bs t) (p+b.k.length+b.d.length) (out++b.k)
  have h4:=lineP_blk a bs t (p+b.k.length+b.d.length) (out++b.k++b.i)
  by_cases c1:b.k <+: a.drop p
  ·by_cases c2:b.d <+: a.drop (p+b.k.length)
   ·rw [h1.1 c1,h2.1 c2,h3]
    refine ⟨fun h=>?_,fun h=>h4.2 (fun hh=>h ⟨c1,c2,hh⟩)⟩
    rw [h4.1 h.2.2]
    congr 2
    ·simp only [List.append_assoc]
    ·omega
   ·exact ⟨fun h=>absurd h.2.1 c2,fun _=>by rw [h1.1 c1,h2.2 c2]⟩
  ·exact ⟨fun h=>absurd h.1 c1,fun _=>h1.2 c1⟩
structure TakeOne (a b:List ByteArray) (d d':Nat) (h:Hk) (A B:Nat) (bs:List Blk) (t:List ByteArray):Prop where
 eq:h=⟨(A:Int),((oldN bs+t.length:Nat):Int),(B:Int),((newN bs+t.length:Nat):Int),blkLines bs t⟩
 hd:d≤A
 hd':d'≤B
 hA:A+(oldN bs+t.length)≤a.length
 hB:B+(newN bs+t.length)≤b.length
 gap:(a.take A).drop d=(b.take B).drop d'
 ho:(a.drop A).take (oldN bs+t.length)=oldL bs t
 hn:(b.drop B).take (newN bs+t.length)=newL bs t
 ok:BOk true bs
def Takes (a b:List ByteArray):Nat→Nat→List Hk→Prop
 | d,d',[]=>a.drop d=b.drop d'∧d≤a.length∧d'≤b.length
 | d,d',h :: hs=>∃ (A B:Nat) (bs:List Blk) (t:List ByteArray),TakeOne a b d d' h A B bs t∧Takes a b (A+(oldN bs+t.length)) (B+(newN bs+t.length)) hs
theorem gap_app (b:List ByteArray) {d B:Nat} (h:d≤B):(b.take B).drop d++b.drop B=b.drop d:=by
 rw [List.drop_take]
 have:b.drop B=(b.drop d).drop (B - d):=by rw [List.drop_drop];congr 1;omega
 rw [this,List.take_append_drop]
theorem takes_one {a b:List ByteArray} {d d':Nat} {h:Hk} {A B:Nat} {bs:List Blk} {t:List ByteArray} (H:TakeOne a b d d' h A B bs t) (out:List ByteArray) :
  oneP a d h.f0 h.f4 out=some (out++(a.take A).drop d++newL bs t,A+(oldN bs+t.length)):=by
 rw [H.eq]
 show oneP a d (A:Int) (blkLines bs t) out=_
 have:=H.hA
 rw [oneP,if_pos (by omega),Int.toNat_natCast,(lineP_blk a bs t A _).1 (by rw [← H.ho];exact List.take_prefix _ _)]
theorem takes_apply (a b:List ByteArray):∀ (l:List Hk) (d d':Nat) (out:List ByteArray),Takes a b d d' l→∃ o p,allP a d out l=some (o,p)∧p≤a.length∧o++a.drop p=out++b.drop d'
 | [],d,d',out,h=>⟨out,d,rfl,h.2.1,by rw [h.1]⟩
 | x :: l,d,d',out,h=>by
  obtain ⟨A,B,bs,t,H,hr⟩:=h
  obtain ⟨o,p,h1,h2,h3⟩:=takes_apply a b l _ _ (out++(a.take A).drop d++newL bs t) hr
  refine ⟨o,p,?_,h2,?_⟩
  ·rw [allP,takes_one H];exact h1
  ·rw [h3,H.gap,← H.hn,List.append_assoc,List.append_assoc,show b.drop (B+(newN bs+t.length))=(b.drop B).drop (newN bs+t.length) by rw [List.drop_drop],List.take_append_drop,gap_app b H.hd']
def Turned:List Hk→List Hk→Prop
 | [],[]=>True
 | h :: hs,m :: ms=>(∃ (A An B Bn:Int) (bs:List Blk) (t:List ByteArray),h=⟨A,An,B,Bn,blkLines bs t⟩∧m=⟨B,Bn,A,An,blkLines (bs.map swapB) t⟩∧BOk true bs)∧Turned hs ms
 | _,_=>False
theorem Turned.back:∀ {l m:List Hk},Turned l m→Turned m l
 | [],[],_=>trivial
 | h :: hs,m :: ms,⟨⟨A,An,B,Bn,bs,t,e1,e2,ok⟩,hr⟩=>⟨⟨B,Bn,A,An,bs.map swapB,t,e2,by rw [e1,swapB_swapB],BOk_swap _ _ ok⟩,Turned.back hr⟩
 | [],_ :: _,h=>h.elim
 | _ :: _,[],h=>h.elim
theorem takes_turn (a b:List ByteArray):∀ (l:List Hk) (d d':Nat),Takes a b d d' l→∃ m,Turned l m∧Takes b a d' d m
 | [],d,d',h=>⟨[],trivial,h.1.symm,h.2.2,h.2.1⟩
 | x :: l,d,d',h=>by
  obtain ⟨A,B,bs,t,H,hr⟩:=h
  obtain ⟨m,h1,h2⟩:=takes_turn a b l _ _ hr
  refine ⟨⟨(B:Int),((newN bs+t.length:Nat):Int),(A:Int),((oldN bs+t.length:Nat):Int),blkLines (bs.map swapB) t⟩ :: m,⟨⟨_,_,_,_,bs,t,H.eq,rfl,H.ok⟩,h1⟩,B,A,bs.map swapB,t,⟨?_,H.hd',H.hd,?_,?_,H.gap.symm,?_,?_,BOk_swap _ _ H.ok⟩,?_⟩
  ·rw [oldN_swap,newN_swap]
  ·rw [oldN_swap];exact H.hB
  ·rw [newN_swap];exact H.hA
  ·rw [oldN_swap,oldL_swap];exact H.hn
  ·rw [newN_swap,newL_swap];exact H.ho
  ·rw [oldN_swap,newN_swap];exact h2
theorem takes_b {a b:List ByteArray} {d d':Nat} {h:Hk} {A B:Nat} {bs:List Blk} {t:List ByteArray} (H:TakeOne a b d d' h A B bs t):(B:Int)=A+(d' - d):=by
 have h1:=congrArg List.length H.gap
 have h2:=H.hA
 have h3:=H.hB
 have h4:=H.hd
 have h5:=H.hd'
 rw [List.length_drop,List.length_drop,List.length_take,List.length_take] at h1
 omega
theorem rightL_blk (A B:Nat) (bs:List Blk) (t:List ByteArray) (ok:BOk true bs):rightL (A:Int) ((oldN bs+t.length:Nat):Int) (B:Int) ((newN bs+t.length:Nat):Int) (blkLines bs t)=true:=by
 rw [← right_same,decide_eq_true_eq,cntL_blk bs t true false 0 0 ok (fun _=>rfl)]
 refine ⟨rfl,by omega,by omega,?_,?_⟩
 ·show (0:Int)+_+_=_;push_cast;omega
 show (0:Int)+_+_=_;push_cast;omega
theorem takes_right (a b:List ByteArray):∀ (l:List Hk) (d d':Nat),Takes a b d d' l→rightP (d:Int) ((d':Int) - d) l=true
 | [],d,d',h=>rfl
 | x :: l,d,d',h=>by
  obtain ⟨A,B,bs,t,H,hr⟩:=h
  have hB:=takes_b H
  have hd:=H.hd
  have ih:=takes_right a b l _ _ hr
  rw [rightP,Bool.and_eq_true,Bool.and_eq_true,Bool.and_eq_true,decide_eq_true_eq,decide_eq_true_eq,H.eq]
  refine ⟨⟨⟨rightL_blk A B bs t H.ok,by show (d:Int)≤A;omega⟩,hB⟩,?_⟩
  rw [show ((A+(oldN bs+t.length):Nat):Int)=(A:Int)+((oldN bs+t.length:Nat):Int) by omega,show ((B+(newN bs+t.length):Nat):Int) - ((A:Int)+((oldN bs+t.length:Nat):Int))=(d':Int) - d+((newN bs+t.length:Nat):Int) - ((oldN bs+t.length:Nat):Int) by omega] at ih
  exact ih
theorem takes_applyP {a b:List ByteArray} {l:List Hk} (h:Takes a b 0 0 l):applyP a l=(b,0):=by
 have hr:=takes_right a b l 0 0 h
 obtain ⟨o,p,h1,h2,h3⟩:=takes_apply a b l 0 0 [] h
 unfold applyP
 rw [if_pos (by simpa using hr),h1]
 show (o++a.drop p,(0:Int))=(b,0)
 rw [h3];simp
theorem takes_ge (a b:List ByteArray):∀ (l:List Hk) (d d':Nat),Takes a b d d' l→∀ h ∈ l,(d:Int)≤h.f0
 | [],d,d',_,h,hh=>absurd hh (by simp)
 | x :: l,d,d',H,h,hh=>by
  obtain ⟨A,B,bs,t,H,hr⟩:=H
  have:=H.hd
  rcases List.mem_cons.1 hh with rfl|hh
  ·rw [H.eq];show (d:Int)≤A;omega
  ·have:=takes_ge a b l _ _ hr h hh
   omega
theorem takes_cong (a b c:List ByteArray) (hl:c.length=a.length):∀ (l:List Hk) (d d':Nat),c.drop d=a.drop d→Takes a b d d' l→Takes c b d d' l
 | [],d,d',e,h=>⟨by rw [e,h.1],by rw [hl];exact h.2.1,h.2.2⟩
 | x :: l,d,d',e,h=>by
  obtain ⟨A,B,bs,t,H,hr⟩:=h
  have hd:=H.hd
  have e2:∀ n,d≤n→c.drop n=a.drop n:=fun n hn=>by
   have:=congrArg (List.drop (n - d)) e
   rw [List.drop_drop,List.drop_drop,show d+(n - d)=n by omega] at this
   exact this
  refine ⟨A,B,bs,t,⟨H.eq,H.hd,H.hd',by rw [hl];exact H.hA,H.hB,?_,by rw [e2 A hd];exact H.ho,H.hn,H.ok⟩,takes_cong a b c hl l _ _ (e2 _ (by omega)) hr⟩
  rw [← H.gap,List.drop_take,List.drop_take,e]
def inH (k:Nat) (l:List Hk):Prop:=∃ h ∈ l,h.f0≤(k:Int)∧(k:Int)<h.f0+h.f1
theorem drop_set_lt (a:List ByteArray) (k n:Nat) (s:ByteArray) (h:k<n):(a.set k s).drop n=a.drop n:=by
 rw [List.drop_set,if_pos h]
theorem exact_all (a b:List ByteArray) (k:Nat) (s:ByteArray) (hk:k<a.length) (hs:a[k]?≠some s):∀ (l:List Hk) (d d':Nat) (out:List ByteArray),Takes a b d d' l→d≤k →
  (inH k l→allP (a.set k s) d out l=none)∧(¬ inH k l→∃ o p,allP (a.set k s) d out l=some (o,p)∧(o++(a.set k s).drop p).length=out.length+(b.drop d').length∧s ∈ o++(a.set k s).drop p)
 | [],d,d',out,h,hd=>by
  refine ⟨fun ⟨h,hh,_⟩=>absurd hh (by simp),fun _=>⟨out,d,rfl,?_,?_⟩⟩
  ·rw [← h.1,List.length_append,List.length_drop,List.length_set,List.length_drop]
  ·refine List.mem_append_right _ ?_
   rw [List.drop_set,if_neg (by omega)]
   exact List.mem_of_getElem? (List.getElem?_set_self (by rw [List.length_drop];omega))
 | x :: l,d,d',out,h,hd=>by
  obtain ⟨A,B,bs,t,H,hr⟩:=h
  have hdA:=H.hd
  have hAl:=H.hA
  have hx0:x.f0=A:=by rw [H.eq]
  have hx1:x.f1=((oldN bs+t.length:Nat):Int):=by rw [H.eq]
  have hx4:x.f4=blkLines bs t:=by rw [H.eq]
  have hlc:(a.set k s).length=a.length:=List.length_set
  have hone:oneP (a.set k s) d x.f0 x.f4 out=lineP (a.set k s) A (out++((a.set k s).take A).drop d) (blkLines bs t):=by
   rw [hx0,hx4,oneP,if_pos (by rw [hlc];omega),Int.toNat_natCast]
  by_cases c1:k<A
  ·-- ahead of the hunk
   have hno:¬ inH k (x :: l):=by
    rintro ⟨h,hh,h1,h2⟩
    rcases List.mem_cons.1 hh with rfl|hh
    ·rw [hx0] at h1;omega
    ·have:=takes_ge a b l _ _ hr h hh
     omega
   refine ⟨fun h=>absurd h hno,fun _=>?_⟩
   have hcd:∀ n,k<n→(a.set k s).drop n=a.drop n:=fun n hn=>drop_set_lt a k n s hn
   have hlp:=(lineP_blk (a.set k s) bs t A (out++((a.set k s).take A).drop d)).1 (by rw [hcd A c1,← H.ho];exact List.take_prefix _ _)
   have ht2:=takes_cong a b (a.set k s) hlc l _ _ (hcd _ (by omega)) hr
   obtain ⟨o,p,h1,h2,h3⟩:=takes_apply (a.set k s) b l _ _ (out++((a.set k s).take A).drop d++newL bs t) ht2
   refine ⟨o,p,?_,?_,?_⟩
   ·rw [allP,hone,hlp];exact h1
   ·rw [h3]
    have hgl:=congrArg List.length H.gap
    have:=H.hB
    have:=H.hd'
    simp only [List.length_append,List.length_drop,List.length_take,List.length_set,newL_len] at hgl ⊢
    omega
   ·rw [h3]
    refine List.mem_append_left _ (List.mem_append_left _ (List.mem_append_right _ ?_))
    rw [List.take_set,List.drop_set,if_neg (by omega)]
    exact List.mem_of_getElem? (List.getElem?_set_self (by rw [List.length_drop,List.length_take];omega))
  ·by_cases c2:k<A+(oldN bs+t.length)
   ·have hin:inH k (x :: l):=⟨x,List.mem_cons_self,by rw [hx0];omega,by rw [hx0,hx1];omega⟩
    refine ⟨fun _=>?_,fun h=>absurd hin h⟩
    have hnp:¬ oldL bs t <+: (a.set k s).drop A:=by
     rintro ⟨r,hr⟩
     have h1:(oldL bs t)[k - A]?=a[k]?:=by
      rw [← H.ho,List.getElem?_take_of_lt (by omega),List.getElem?_drop,show A+(k - A)=k by omega]
     have h2:(oldL bs t)[k - A]?=some s:=by
      have:=congrArg (fun z=>z[k - A]?) hr
      rw [List.getElem?_append_left (by rw [oldL_len];omega),List.getElem?_drop,show A+(k - A)=k by omega,List.getElem?_set_self hk] at this
      exact this
     exact hs (h1.symm.trans h2)
    rw [allP,hone,(lineP_blk (a.set k s) bs t A _).2 hnp]
   ·have hiff:inH k (x :: l) ↔ inH k l:=by
     constructor
     ·rintro ⟨h,hh,h1,h2⟩
      rcases List.mem_cons.1 hh with rfl|hh
      ·rw [hx0,hx1] at h2;omega
      ·exact ⟨h,hh,h1,h2⟩
     ·rintro ⟨h,hh,h12⟩
      exact ⟨h,List.mem_cons_of_mem _ hh,h12⟩
    have htk:(a.set k s).take A=a.take A:=by rw [List.take_set,List.set_eq_of_length_le (by rw [List.length_take];omega)]
    have hpre:oldL bs t <+: (a.set k s).drop A:=by
     have e:((a.set k s).drop A).take (oldN bs+t.length)=oldL bs t:=by
      rw [List.drop_set,if_neg (by omega),List.take_set,List.set_eq_of_length_le (by rw [List.length_take,List.length_drop];omega),H.ho]
     rw [← e];exact List.take_prefix _ _
    have hlp:=(lineP_blk (a.set k s) bs t A (out++((a.set k s).take A).drop d)).1 hpre
    have ih:=exact_all a b k s hk hs l _ _ (out++((a.set k s).take A).drop d++newL bs t) hr (by omega)
    have hal:allP (a.set k s) d out (x :: l)=allP (a.set k s) (A+(oldN bs+t.length)) (out++((a.set k s).take A).drop d++newL bs t) l:=by
     rw [allP,hone,hlp]
    rw [hal,hiff]
    refine ⟨ih.1,fun h=>?_⟩
    obtain ⟨o,p,h1,h2,h3⟩:=ih.2 h
    refine ⟨o,p,h1,?_,h3⟩
    rw [h2,htk,H.gap]
    have:=H.hB
    have:=H.hd'
    simp only [List.length_append,List.length_drop,List.length_take,newL_len]
    omega
end Go.Proofs.Ytoaijganmfijmaa.Pr
-- shrunk
-- written by a program of this session's (a turned copy of the kit's printer); Lean checks it
namespace Go.Proofs.Ytoaijganmfijmaa.Pr
open Go.RowKit Go.Proofs.YtoaijganmfijmaaW.PrintWords Go.Proofs.YtoaijganmfijmaaW.PrintLast Go.Proofs.YtoaijganmfijmaaW.PrintMore
attribute [local go_sem] max2_int min2_int max_two min_two max_three min_three max_four min_four   -- for this text's walks alone

def apply_Right.l0:Nat→Int→Int→List (S41)→Int→Int→Option (Bool)
 | 0,_,_,_,_,_=>none
 | k+1,x3,x4,x7,x8,x9=>if x9<x8 then (if 0≤x9 then (if x9<(x7.length:Int) then ((hunk_Right.f k ((rd_T41 x7 x9).f0) ((rd_T41 x7 x9).f1) ((rd_T41 x7 x9).f2) ((rd_T41 x7 x9).f3) ((rd_T41 x7 x9).f4)).bind fun t108=>(if t108=true then (if ((rd_T41 x7 x9).f0)<x3 then (some false) else (if ((rd_T41 x7 x9).f2)=(wrap64 (((rd_T41 x7 x9).f0)+x4)) then (apply_Right.l0 k (wrap64 (((rd_T41 x7 x9).f0)+((rd_T41 x7 x9).f1))) (wrap64 ((wrap64 (x4+((rd_T41 x7 x9).f3))) - ((rd_T41 x7 x9).f1))) x7 x8 (wrap64 (x9+1))) else (some false))) else (some false))) else (none)) else (none)) else (some true)
def apply_Right.f (k:Nat) (l0:List (S41)):Option (Bool):=apply_Right.l0 k 0 0 l0 (l0.length:Int) 0
theorem apply_Right.mono_l:∀ k,(∀ y0 y1 y2 y3 y4,LeO (apply_Right.l0 k y0 y1 y2 y3 y4) (apply_Right.l0 (k+1) y0 y1 y2 y3 y4))
 | 0=>fun _ _ _ _ _ r h=>by simp [apply_Right.l0] at h
 | k+1=>by
  have ih0:=apply_Right.mono_l k
  ·intro y0 y1 y2 y3 y4
   unfold apply_Right.l0
   repeat' first
   | (with_reducible exact ih0 _ _ _ _ _)
   | (with_reducible exact hunk_Right.mono _ _ _ _ _ _)
   | (with_reducible exact LeO.refl _)
   | (with_reducible exact LeO.none _)
   | (with_reducible refine LeO.ite ?_ ?_)
   | (with_reducible refine LeO.bind ?_ (fun _=>?_))
   | exact ih0 _ _ _ _ _
   | exact hunk_Right.mono _ _ _ _ _ _
   | exact LeO.none _
   | refine LeO.ite ?_ ?_
   | refine LeO.bind ?_ (fun _=>?_)
theorem apply_Right.mono:∀ a0 k,LeO (apply_Right.f k a0) (apply_Right.f (k+1) a0):=by
 intro a0 k
 have ih0:=apply_Right.mono_l k
 unfold apply_Right.f
 repeat' first
   | (with_reducible exact ih0 _ _ _ _ _)
   | (with_reducible exact hunk_Right.mono _ _ _ _ _ _)
   | (with_reducible exact LeO.refl _)
   | (with_reducible exact LeO.none _)
   | (with_reducible refine LeO.ite ?_ ?_)
   | (with_reducible refine LeO.bind ?_ (fun _=>?_))
   | exact ih0 _ _ _ _ _
   | exact hunk_Right.mono _ _ _ _ _ _
   | exact LeO.none _
   | refine LeO.ite ?_ ?_
   | refine LeO.bind ?_ (fun _=>?_)
set_option maxHeartbeats 8000000 in
set_option maxRecDepth 100000 in
theorem apply_Right.calls (k:Nat) (A0:Option Addr) (c0:Nat) (l0:List (S41)) (r:Bool) (w:World) (hr0:Kd.C k41 w A0 l0.length l0) (hc0:l0.length≤c0) (h:apply_Right.f k l0=some r) :
  Calls Try.prog 15 #[.slice A0 l0.length c0] w fun e w'=>e=.returned (.bool r)∧Below w.heap.size w w':=by
 have hu41:=Try.underlying41
 have HR0:=Aside0.mk hr0
 have HC0:=Aside0.mk hc0
 clear hr0 hc0
 have HB:=Aside0.mk (Below.refl w.heap.size w)
 have H:(apply_Right.l0 k 0 0 l0 (l0.length:Int) 0)=some r:=h
 clear h
 have H':=Aside0.mk H
 clear H
 go_enter Try.func15,Try.ntmps15
 go_wp2
 go_loopg [3,4,9] k (fun kq v3 v4 v9 w'=>∃ (x3_1:Int) (x4_1:Int) (x9_1:Int),v3=.int .i64 x3_1∧v4=.int .i64 x4_1∧v9=.int .i64 x9_1∧Aside0 (apply_Right.l0 kq x3_1 x4_1 l0 (l0.length:Int) x9_1=some r)∧Aside0 (kq≤k)∧Aside0 (Below w.heap.size w w'))
 case atStart=>exact ⟨(0),(0),(0),rx,rx,rx,H',⟨Nat.le_refl _⟩,⟨by repeat (first|(with_reducible first|exact HB.out|apply below_alloc|apply pw_below_drewN|apply below_drew1)|exact HB.out)⟩⟩
 case round =>
  clear H'
  try clear c1
  obtain ⟨x3_1,x4_1,x9_1,rfl,rfl,rfl,HA,HK1,HB⟩:=hrel
  cases gk with
  | zero=>exact absurd HA.out (by simp [apply_Right.l0])
  | succ k1 =>
   have H:=HA.out
   clear HA
   simp only [apply_Right.l0] at H
   by_cases c2:x9_1<(l0.length:Int)
   ·rw [if_pos c2] at H
    have c2b0:decide (x9_1<(l0.length:Int))=true:=decide_eq_true c2
    clear c2
    by_cases c3:0≤x9_1
    ·rw [if_pos c3] at H
     have c3b0:decide (0≤x9_1)=true:=decide_eq_true c3
     clear c3
     by_cases c4:x9_1<(l0.length:Int)
     ·rw [if_pos c4] at H
      have c4b0:decide (x9_1<(l0.length:Int))=true:=decide_eq_true c4
      clear c4
      replace H:=Option.bind_eq_some_iff.mp H
      obtain ⟨t108,A50,H⟩:=H
      replace H:(if t108=true then (if ((rd_T41 l0 x9_1).f0)<x3_1 then (some false) else (if ((rd_T41 l0 x9_1).f2)=(wrap64 (((rd_T41 l0 x9_1).f0)+x4_1)) then (apply_Right.l0 k1 (wrap64 (((rd_T41 l0 x9_1).f0)+((rd_T41 l0 x9_1).f1))) (wrap64 ((wrap64 (x4_1+((rd_T41 l0 x9_1).f3))) - ((rd_T41 l0 x9_1).f1))) l0 (l0.length:Int) (wrap64 (x9_1+1))) else (some false))) else (some false))=some r:=H
      have A5:=Aside0.mk A50
      clear A50
      by_cases c6:t108=true
      ·subst c6
       have H1:(if ((rd_T41 l0 x9_1).f0)<x3_1 then (some false) else (if ((rd_T41 l0 x9_1).f2)=(wrap64 (((rd_T41 l0 x9_1).f0)+x4_1)) then (apply_Right.l0 k1 (wrap64 (((rd_T41 l0 x9_1).f0)+((rd_T41 l0 x9_1).f1))) (wrap64 ((wrap64 (x4_1+((rd_T41 l0 x9_1).f3))) - ((rd_T41 l0 x9_1).f1))) l0 (l0.length:Int) (wrap64 (x9_1+1))) else (some false)))=some r:=by rw [if_pos rfl] at H;exact H
       clear H
       have H:=H1
       clear H1
       by_cases c7:((rd_T41 l0 x9_1).f0)<x3_1
       ·rw [if_pos c7] at H
        have c7b0:decide (((rd_T41 l0 x9_1).f0)<x3_1)=true:=decide_eq_true c7
        clear c7
        obtain rfl:=Option.some.inj H
        have p106:0≤(x9_1:Int):=of_decide_eq_true asm
        have q106:x9_1<(l0.length:Int):=of_decide_eq_true asm
        obtain ⟨ad106,A106_4,c106_4,e106,hx106_0,hx106_1,hx106_2,hx106_3,hx106_4,hl106_4,hi106_4⟩:=at_T41 HR0.out x9_1 p106 q106
        cases e106
        replace hx106_0:=pw_cell_below HB.out hx106_0
        replace hx106_1:=pw_cell_below HB.out hx106_1
        replace hx106_2:=pw_cell_below HB.out hx106_2
        replace hx106_3:=pw_cell_below HB.out hx106_3
        replace hx106_4:=pw_cell_below HB.out hx106_4
        have HR106_4:=Aside0.mk hi106_4
        have HC106_4:=Aside0.mk hl106_4
        clear hi106_4 hl106_4
        replace p106:=eq_true p106
        replace q106:=eq_true q106
        go_wp2_with (first|((with_reducible refine gate_dst (N:=6) rfl ?_);refine box_event ?hg (N:=6) ?hd (cs:=#[.int .i64 0,.int .i64 0,.int .i64 0,.int .i64 0,.slice none 0 0]) (t:=41) ?hr ?_;(case hd=>rfl);(case hg=>rfl);(case hr=>first|(go_simp;done)|(go_simp;rfl));intro gb107 hg w8 hbox hb;have n0_:=Aside0.mk (below_step bel hb);have n1_:=Aside0.mk (hbox);have n2_:=Aside0.mk ((szl:w.heap.size≤gb107));have n3_:=Aside0.mk ((szl:w.heap.size≤gb107));clear HB;have HB:=n0_;have BK107:=n1_;have GW107:=n2_;have GE107:=n3_;clear n0_ n1_ n2_ n3_;clear hb hbox hg;have hcz9_0:w8.cell? ⟨gb107,0,none⟩=some (.int .i64 0):=(blk_cell BK107.out 0).trans rfl;have hcz9_1:w8.cell? ⟨gb107,1,none⟩=some (.int .i64 0):=(blk_cell BK107.out 1).trans rfl;have hcz9_2:w8.cell? ⟨gb107,2,none⟩=some (.int .i64 0):=(blk_cell BK107.out 2).trans rfl;have hcz9_3:w8.cell? ⟨gb107,3,none⟩=some (.int .i64 0):=(blk_cell BK107.out 3).trans rfl;have hcz9_4:w8.cell? ⟨gb107,4,none⟩=some (.slice none 0 0):=(blk_cell BK107.out 4).trans rfl;have hfz9_0:=blk_frozen BK107.out 0;have hfz9_1:=blk_frozen BK107.out 1;have hfz9_2:=blk_frozen BK107.out 2;have hfz9_3:=blk_frozen BK107.out 3;have hfz9_4:=blk_frozen BK107.out 4)|(go_at_call 24;(with_reducible refine (hunk_Right.calls k1 ((rd_T41 l0 x9_1).f0) ((rd_T41 l0 x9_1).f1) ((rd_T41 l0 x9_1).f2) ((rd_T41 l0 x9_1).f3) _ _ ((rd_T41 l0 x9_1).f4) true _ ?side1 ?side2 A5.out).mono ?_);(case side1=>exact Kd.C_below HR106_4.out bel);(case side2=>exact HC106_4.out);rintro e w10 ⟨rfl,hb⟩;have n0_:=Aside0.mk (blk_below (g:=gb107) (o:=.cells #[.int .i64 ((rd_T41 l0 x9_1).f0),.int .i64 ((rd_T41 l0 x9_1).f1),.int .i64 ((rd_T41 l0 x9_1).f2),.int .i64 ((rd_T41 l0 x9_1).f3),.slice A106_4 ((rd_T41 l0 x9_1).f4).length c106_4] 41 (0,0)) (by (with_reducible repeat (first|refine blk_drewN ?_ _|refine blk_drew ?_|refine blk_alloc ?_ _));refine blk_put (cs:=#[.int .i64 ((rd_T41 l0 x9_1).f0),.int .i64 ((rd_T41 l0 x9_1).f1),.int .i64 ((rd_T41 l0 x9_1).f2),.int .i64 ((rd_T41 l0 x9_1).f3),.slice none 0 0]) ?_ 4 _ rfl;(with_reducible repeat (first|refine blk_drewN ?_ _|refine blk_drew ?_|refine blk_alloc ?_ _));refine blk_put (cs:=#[.int .i64 ((rd_T41 l0 x9_1).f0),.int .i64 ((rd_T41 l0 x9_1).f1),.int .i64 ((rd_T41 l0 x9_1).f2),.int .i64 0,.slice none 0 0]) ?_ 3 _ rfl;(with_reducible repeat (first|refine blk_drewN ?_ _|refine blk_drew ?_|refine blk_alloc ?_ _));refine blk_put (cs:=#[.int .i64 ((rd_T41 l0 x9_1).f0),.int .i64 ((rd_T41 l0 x9_1).f1),.int .i64 0,.int .i64 0,.slice none 0 0]) ?_ 2 _ rfl;(with_reducible repeat (first|refine blk_drewN ?_ _|refine blk_drew ?_|refine blk_alloc ?_ _));refine blk_put (cs:=#[.int .i64 ((rd_T41 l0 x9_1).f0),.int .i64 0,.int .i64 0,.int .i64 0,.slice none 0 0]) ?_ 1 _ rfl;(with_reducible repeat (first|refine blk_drewN ?_ _|refine blk_drew ?_|refine blk_alloc ?_ _));refine blk_put (cs:=#[.int .i64 0,.int .i64 0,.int .i64 0,.int .i64 0,.slice none 0 0]) ?_ 0 _ rfl;(with_reducible repeat (first|refine blk_drewN ?_ _|refine blk_drew ?_|refine blk_alloc ?_ _));exact BK107.out) hb);have n1_:=Aside0.mk (below_step bel hb);clear BK107;clear HB;have BK107:=n0_;have HB:=n1_;clear n0_ n1_;(try clear hb);(try clear hb2);(try clear hk);(try clear hi);have hcz11_0:w10.cell? ⟨gb107,0,none⟩=some (.int .i64 ((rd_T41 l0 x9_1).f0)):=(blk_cell BK107.out 0).trans rfl;have hcz11_1:w10.cell? ⟨gb107,1,none⟩=some (.int .i64 ((rd_T41 l0 x9_1).f1)):=(blk_cell BK107.out 1).trans rfl;have hcz11_2:w10.cell? ⟨gb107,2,none⟩=some (.int .i64 ((rd_T41 l0 x9_1).f2)):=(blk_cell BK107.out 2).trans rfl;have hcz11_3:w10.cell? ⟨gb107,3,none⟩=some (.int .i64 ((rd_T41 l0 x9_1).f3)):=(blk_cell BK107.out 3).trans rfl;have hcz11_4:w10.cell? ⟨gb107,4,none⟩=some (.slice A106_4 ((rd_T41 l0 x9_1).f4).length c106_4):=(blk_cell BK107.out 4).trans rfl;have hfz11_0:=blk_frozen BK107.out 0;have hfz11_1:=blk_frozen BK107.out 1;have hfz11_2:=blk_frozen BK107.out 2;have hfz11_3:=blk_frozen BK107.out 3;have hfz11_4:=blk_frozen BK107.out 4))
        go_ret
        exact ⟨by first|rfl|(simp [errW_none,errW_some]<;>rfl)|(simp [*,errW_none,errW_some]<;>rfl),bel⟩
       ·rw [if_neg c7] at H
        have c7b0:decide (((rd_T41 l0 x9_1).f0)<x3_1)=false:=decide_eq_false c7
        clear c7
        by_cases c12:((rd_T41 l0 x9_1).f2)=(wrap64 (((rd_T41 l0 x9_1).f0)+x4_1))
        ·rw [if_pos c12] at H
         have c12b0:(((rd_T41 l0 x9_1).f2) == (wrap64 (((rd_T41 l0 x9_1).f0)+x4_1)))=true:=beq_iff_eq.mpr c12
         have c12b1:(((rd_T41 l0 x9_1).f2) != (wrap64 (((rd_T41 l0 x9_1).f0)+x4_1)))=false:=bne_eq_false_iff_eq.mpr c12
         clear c12
         have H':=Aside0.mk H
         clear H
         have p106:0≤(x9_1:Int):=of_decide_eq_true asm
         have q106:x9_1<(l0.length:Int):=of_decide_eq_true asm
         obtain ⟨ad106,A106_4,c106_4,e106,hx106_0,hx106_1,hx106_2,hx106_3,hx106_4,hl106_4,hi106_4⟩:=at_T41 HR0.out x9_1 p106 q106
         cases e106
         replace hx106_0:=pw_cell_below HB.out hx106_0
         replace hx106_1:=pw_cell_below HB.out hx106_1
         replace hx106_2:=pw_cell_below HB.out hx106_2
         replace hx106_3:=pw_cell_below HB.out hx106_3
         replace hx106_4:=pw_cell_below HB.out hx106_4
         have HR106_4:=Aside0.mk hi106_4
         have HC106_4:=Aside0.mk hl106_4
         clear hi106_4 hl106_4
         replace p106:=eq_true p106
         replace q106:=eq_true q106
         go_wp2_with (first|((with_reducible refine gate_dst (N:=6) rfl ?_);refine box_event ?hg (N:=6) ?hd (cs:=#[.int .i64 0,.int .i64 0,.int .i64 0,.int .i64 0,.slice none 0 0]) (t:=41) ?hr ?_;(case hd=>rfl);(case hg=>rfl);(case hr=>first|(go_simp;done)|(go_simp;rfl));intro gb107 hg w13 hbox hb;have n0_:=Aside0.mk (below_step bel hb);have n1_:=Aside0.mk (hbox);have n2_:=Aside0.mk ((szl:w.heap.size≤gb107));have n3_:=Aside0.mk ((szl:w.heap.size≤gb107));clear HB;have HB:=n0_;have BK107:=n1_;have GW107:=n2_;have GE107:=n3_;clear n0_ n1_ n2_ n3_;clear hb hbox hg;have hcz14_0:w13.cell? ⟨gb107,0,none⟩=some (.int .i64 0):=(blk_cell BK107.out 0).trans rfl;have hcz14_1:w13.cell? ⟨gb107,1,none⟩=some (.int .i64 0):=(blk_cell BK107.out 1).trans rfl;have hcz14_2:w13.cell? ⟨gb107,2,none⟩=some (.int .i64 0):=(blk_cell BK107.out 2).trans rfl;have hcz14_3:w13.cell? ⟨gb107,3,none⟩=some (.int .i64 0):=(blk_cell BK107.out 3).trans rfl;have hcz14_4:w13.cell? ⟨gb107,4,none⟩=some (.slice none 0 0):=(blk_cell BK107.out 4).trans rfl;have hfz14_0:=blk_frozen BK107.out 0;have hfz14_1:=blk_frozen BK107.out 1;have hfz14_2:=blk_frozen BK107.out 2;have hfz14_3:=blk_frozen BK107.out 3;have hfz14_4:=blk_frozen BK107.out 4)|(go_at_call 24;(with_reducible refine (hunk_Right.calls k1 ((rd_T41 l0 x9_1).f0) ((rd_T41 l0 x9_1).f1) ((rd_T41 l0 x9_1).f2) ((rd_T41 l0 x9_1).f3) _ _ ((rd_T41 l0 x9_1).f4) true _ ?side1 ?side2 A5.out).mono ?_);(case side1=>exact Kd.C_below HR106_4.out bel);(case side2=>exact HC106_4.out);rintro e w15 ⟨rfl,hb⟩;have n0_:=Aside0.mk (blk_below (g:=gb107) (o:=.cells #[.int .i64 ((rd_T41 l0 x9_1).f0),.int .i64 ((rd_T41 l0 x9_1).f1),.int .i64 ((rd_T41 l0 x9_1).f2),.int .i64 ((rd_T41 l0 x9_1).f3),.slice A106_4 ((rd_T41 l0 x9_1).f4).length c106_4] 41 (0,0)) (by (with_reducible repeat (first|refine blk_drewN ?_ _|refine blk_drew ?_|refine blk_alloc ?_ _));refine blk_put (cs:=#[.int .i64 ((rd_T41 l0 x9_1).f0),.int .i64 ((rd_T41 l0 x9_1).f1),.int .i64 ((rd_T41 l0 x9_1).f2),.int .i64 ((rd_T41 l0 x9_1).f3),.slice none 0 0]) ?_ 4 _ rfl;(with_reducible repeat (first|refine blk_drewN ?_ _|refine blk_drew ?_|refine blk_alloc ?_ _));refine blk_put (cs:=#[.int .i64 ((rd_T41 l0 x9_1).f0),.int .i64 ((rd_T41 l0 x9_1).f1),.int .i64 ((rd_T41 l0 x9_1).f2),.int .i64 0,.slice none 0 0]) ?_ 3 _ rfl;(with_reducible repeat (first|refine blk_drewN ?_ _|refine blk_drew ?_|refine blk_alloc ?_ _));refine blk_put (cs:=#[.int .i64 ((rd_T41 l0 x9_1).f0),.int .i64 ((rd_T41 l0 x9_1).f1),.int .i64 0,.int .i64 0,.slice none 0 0]) ?_ 2 _ rfl;(with_reducible repeat (first|refine blk_drewN ?_ _|refine blk_drew ?_|refine blk_alloc ?_ _));refine blk_put (cs:=#[.int .i64 ((rd_T41 l0 x9_1).f0),.int .i64 0,.int .i64 0,.int .i64 0,.slice none 0 0]) ?_ 1 _ rfl;(with_reducible repeat (first|refine blk_drewN ?_ _|refine blk_drew ?_|refine blk_alloc ?_ _));refine blk_put (cs:=#[.int .i64 0,.int .i64 0,.int .i64 0,.int .i64 0,.slice none 0 0]) ?_ 0 _ rfl;(with_reducible repeat (first|refine blk_drewN ?_ _|refine blk_drew ?_|refine blk_alloc ?_ _));exact BK107.out) hb);have n1_:=Aside0.mk (below_step bel hb);clear BK107;clear HB;have BK107:=n0_;have HB:=n1_;clear n0_ n1_;(try clear hb);(try clear hb2);(try clear hk);(try clear hi);have hcz16_0:w15.cell? ⟨gb107,0,none⟩=some (.int .i64 ((rd_T41 l0 x9_1).f0)):=(blk_cell BK107.out 0).trans rfl;have hcz16_1:w15.cell? ⟨gb107,1,none⟩=some (.int .i64 ((rd_T41 l0 x9_1).f1)):=(blk_cell BK107.out 1).trans rfl;have hcz16_2:w15.cell? ⟨gb107,2,none⟩=some (.int .i64 ((rd_T41 l0 x9_1).f2)):=(blk_cell BK107.out 2).trans rfl;have hcz16_3:w15.cell? ⟨gb107,3,none⟩=some (.int .i64 ((rd_T41 l0 x9_1).f3)):=(blk_cell BK107.out 3).trans rfl;have hcz16_4:w15.cell? ⟨gb107,4,none⟩=some (.slice A106_4 ((rd_T41 l0 x9_1).f4).length c106_4):=(blk_cell BK107.out 4).trans rfl;have hfz16_0:=blk_frozen BK107.out 0;have hfz16_1:=blk_frozen BK107.out 1;have hfz16_2:=blk_frozen BK107.out 2;have hfz16_3:=blk_frozen BK107.out 3;have hfz16_4:=blk_frozen BK107.out 4))
         repeat (go_quiet (fail);try go_wp2_with (fail))
         go_roundg k1
         case measure=>have:=HK1.out;omega
         case rel=>exact ⟨(wrap64 (((rd_T41 l0 x9_1).f0)+((rd_T41 l0 x9_1).f1))),(wrap64 ((wrap64 (x4_1+((rd_T41 l0 x9_1).f3))) - ((rd_T41 l0 x9_1).f1))),(wrap64 (x9_1+1)),rx,rx,rx,H',⟨by have:=HK1.out;omega⟩,⟨by repeat (first|(with_reducible first|exact HB.out|apply below_alloc|apply pw_below_drewN|apply below_drew1|refine below_set ?_ GE107.out)|exact HB.out)⟩⟩
        ·rw [if_neg c12] at H
         have c12b0:(((rd_T41 l0 x9_1).f2) == (wrap64 (((rd_T41 l0 x9_1).f0)+x4_1)))=false:=beq_eq_false_iff_ne.mpr c12
         have c12b1:(((rd_T41 l0 x9_1).f2) != (wrap64 (((rd_T41 l0 x9_1).f0)+x4_1)))=true:=bne_iff_ne.mpr c12
         obtain rfl:=Option.some.inj H
         have p106:0≤(x9_1:Int):=of_decide_eq_true asm
         have q106:x9_1<(l0.length:Int):=of_decide_eq_true asm
         obtain ⟨ad106,A106_4,c106_4,e106,hx106_0,hx106_1,hx106_2,hx106_3,hx106_4,hl106_4,hi106_4⟩:=at_T41 HR0.out x9_1 p106 q106
         cases e106
         replace hx106_0:=pw_cell_below HB.out hx106_0
         replace hx106_1:=pw_cell_below HB.out hx106_1
         replace hx106_2:=pw_cell_below HB.out hx106_2
         replace hx106_3:=pw_cell_below HB.out hx106_3
         replace hx106_4:=pw_cell_below HB.out hx106_4
         have HR106_4:=Aside0.mk hi106_4
         have HC106_4:=Aside0.mk hl106_4
         clear hi106_4 hl106_4
         replace p106:=eq_true p106
         replace q106:=eq_true q106
         go_wp2_with (first|((with_reducible refine gate_dst (N:=6) rfl ?_);refine box_event ?hg (N:=6) ?hd (cs:=#[.int .i64 0,.int .i64 0,.int .i64 0,.int .i64 0,.slice none 0 0]) (t:=41) ?hr ?_;(case hd=>rfl);(case hg=>rfl);(case hr=>first|(go_simp;done)|(go_simp;rfl));intro gb107 hg w17 hbox hb;have n0_:=Aside0.mk (below_step bel hb);have n1_:=Aside0.mk (hbox);have n2_:=Aside0.mk ((szl:w.heap.size≤gb107));have n3_:=Aside0.mk ((szl:w.heap.size≤gb107));clear HB;have HB:=n0_;have BK107:=n1_;have GW107:=n2_;have GE107:=n3_;clear n0_ n1_ n2_ n3_;clear hb hbox hg;have hcz18_0:w17.cell? ⟨gb107,0,none⟩=some (.int .i64 0):=(blk_cell BK107.out 0).trans rfl;have hcz18_1:w17.cell? ⟨gb107,1,none⟩=some (.int .i64 0):=(blk_cell BK107.out 1).trans rfl;have hcz18_2:w17.cell? ⟨gb107,2,none⟩=some (.int .i64 0):=(blk_cell BK107.out 2).trans rfl;have hcz18_3:w17.cell? ⟨gb107,3,none⟩=some (.int .i64 0):=(blk_cell BK107.out 3).trans rfl;have hcz18_4:w17.cell? ⟨gb107,4,none⟩=some (.slice none 0 0):=(blk_cell BK107.out 4).trans rfl;have hfz18_0:=blk_frozen BK107.out 0;have hfz18_1:=blk_frozen BK107.out 1;have hfz18_2:=blk_frozen BK107.out 2;have hfz18_3:=blk_frozen BK107.out 3;have hfz18_4:=blk_frozen BK107.out 4)|(go_at_call 24;(with_reducible refine (hunk_Right.calls k1 ((rd_T41 l0 x9_1).f0) ((rd_T41 l0 x9_1).f1) ((rd_T41 l0 x9_1).f2) ((rd_T41 l0 x9_1).f3) _ _ ((rd_T41 l0 x9_1).f4) true _ ?side1 ?side2 A5.out).mono ?_);(case side1=>exact Kd.C_below HR106_4.out bel);(case side2=>exact HC106_4.out);rintro e w19 ⟨rfl,hb⟩;have n0_:=Aside0.mk (blk_below (g:=gb107) (o:=.cells #[.int .i64 ((rd_T41 l0 x9_1).f0),.int .i64 ((rd_T41 l0 x9_1).f1),.int .i64 ((rd_T41 l0 x9_1).f2),.int .i64 ((rd_T41 l0 x9_1).f3),.slice A106_4 ((rd_T41 l0 x9_1).f4).length c106_4] 41 (0,0)) (by (with_reducible repeat (first|refine blk_drewN ?_ _|refine blk_drew ?_|refine blk_alloc ?_ _));refine blk_put (cs:=#[.int .i64 ((rd_T41 l0 x9_1).f0),.int .i64 ((rd_T41 l0 x9_1).f1),.int .i64 ((rd_T41 l0 x9_1).f2),.int .i64 ((rd_T41 l0 x9_1).f3),.slice none 0 0]) ?_ 4 _ rfl;(with_reducible repeat (first|refine blk_drewN ?_ _|refine blk_drew ?_|refine blk_alloc ?_ _));refine blk_put (cs:=#[.int .i64 ((rd_T41 l0 x9_1).f0),.int .i64 ((rd_T41 l0 x9_1).f1),.int .i64 ((rd_T41 l0 x9_1).f2),.int .i64 0,.slice none 0 0]) ?_ 3 _ rfl;(with_reducible repeat (first|refine blk_drewN ?_ _|refine blk_drew ?_|refine blk_alloc ?_ _));refine blk_put (cs:=#[.int .i64 ((rd_T41 l0 x9_1).f0),.int .i64 ((rd_T41 l0 x9_1).f1),.int .i64 0,.int .i64 0,.slice none 0 0]) ?_ 2 _ rfl;(with_reducible repeat (first|refine blk_drewN ?_ _|refine blk_drew ?_|refine blk_alloc ?_ _));refine blk_put (cs:=#[.int .i64 ((rd_T41 l0 x9_1).f0),.int .i64 0,.int .i64 0,.int .i64 0,.slice none 0 0]) ?_ 1 _ rfl;(with_reducible repeat (first|refine blk_drewN ?_ _|refine blk_drew ?_|refine blk_alloc ?_ _));refine blk_put (cs:=#[.int .i64 0,.int .i64 0,.int .i64 0,.int .i64 0,.slice none 0 0]) ?_ 0 _ rfl;(with_reducible repeat (first|refine blk_drewN ?_ _|refine blk_drew ?_|refine blk_alloc ?_ _));exact BK107.out) hb);have n1_:=Aside0.mk (below_step bel hb);clear BK107;clear HB;have BK107:=n0_;have HB:=n1_;clear n0_ n1_;(try clear hb);(try clear hb2);(try clear hk);(try clear hi);have hcz20_0:w19.cell? ⟨gb107,0,none⟩=some (.int .i64 ((rd_T41 l0 x9_1).f0)):=(blk_cell BK107.out 0).trans rfl;have hcz20_1:w19.cell? ⟨gb107,1,none⟩=some (.int .i64 ((rd_T41 l0 x9_1).f1)):=(blk_cell BK107.out 1).trans rfl;have hcz20_2:w19.cell? ⟨gb107,2,none⟩=some (.int .i64 ((rd_T41 l0 x9_1).f2)):=(blk_cell BK107.out 2).trans rfl;have hcz20_3:w19.cell? ⟨gb107,3,none⟩=some (.int .i64 ((rd_T41 l0 x9_1).f3)):=(blk_cell BK107.out 3).trans rfl;have hcz20_4:w19.cell? ⟨gb107,4,none⟩=some (.slice A106_4 ((rd_T41 l0 x9_1).f4).length c106_4):=(blk_cell BK107.out 4).trans rfl;have hfz20_0:=blk_frozen BK107.out 0;have hfz20_1:=blk_frozen BK107.out 1;have hfz20_2:=blk_frozen BK107.out 2;have hfz20_3:=blk_frozen BK107.out 3;have hfz20_4:=blk_frozen BK107.out 4))
         go_ret
         exact ⟨by first|rfl|(simp [errW_none,errW_some]<;>rfl)|(simp [*,errW_none,errW_some]<;>rfl),bel⟩
      ·replace c6:=Bool.eq_false_iff.mpr c6
       subst c6
       have H1:(some false)=some r:=by rw [if_neg (show ¬ (false=true) by decide)] at H;exact H
       clear H
       have H:=H1
       clear H1
       obtain rfl:=Option.some.inj H
       have p106:0≤(x9_1:Int):=of_decide_eq_true asm
       have q106:x9_1<(l0.length:Int):=of_decide_eq_true asm
       obtain ⟨ad106,A106_4,c106_4,e106,hx106_0,hx106_1,hx106_2,hx106_3,hx106_4,hl106_4,hi106_4⟩:=at_T41 HR0.out x9_1 p106 q106
       cases e106
       replace hx106_0:=pw_cell_below HB.out hx106_0
       replace hx106_1:=pw_cell_below HB.out hx106_1
       replace hx106_2:=pw_cell_below HB.out hx106_2
       replace hx106_3:=pw_cell_below HB.out hx106_3
       replace hx106_4:=pw_cell_below HB.out hx106_4
       have HR106_4:=Aside0.mk hi106_4
       have HC106_4:=Aside0.mk hl106_4
       clear hi106_4 hl106_4
       replace p106:=eq_true p106
       replace q106:=eq_true q106
       go_wp2_with (first|((with_reducible refine gate_dst (N:=6) rfl ?_);refine box_event ?hg (N:=6) ?hd (cs:=#[.int .i64 0,.int .i64 0,.int .i64 0,.int .i64 0,.slice none 0 0]) (t:=41) ?hr ?_;(case hd=>rfl);(case hg=>rfl);(case hr=>first|(go_simp;done)|(go_simp;rfl));intro gb107 hg w21 hbox hb;have n0_:=Aside0.mk (below_step bel hb);have n1_:=Aside0.mk (hbox);have n2_:=Aside0.mk ((szl:w.heap.size≤gb107));have n3_:=Aside0.mk ((szl:w.heap.size≤gb107));clear HB;have HB:=n0_;have BK107:=n1_;have GW107:=n2_;have GE107:=n3_;clear n0_ n1_ n2_ n3_;clear hb hbox hg;have hcz22_0:w21.cell? ⟨gb107,0,none⟩=some (.int .i64 0):=(blk_cell BK107.out 0).trans rfl;have hcz22_1:w21.cell? ⟨gb107,1,none⟩=some (.int .i64 0):=(blk_cell BK107.out 1).trans rfl;have hcz22_2:w21.cell? ⟨gb107,2,none⟩=some (.int .i64 0):=(blk_cell BK107.out 2).trans rfl;have hcz22_3:w21.cell? ⟨gb107,3,none⟩=some (.int .i64 0):=(blk_cell BK107.out 3).trans rfl;have hcz22_4:w21.cell? ⟨gb107,4,none⟩=some (.slice none 0 0):=(blk_cell BK107.out 4).trans rfl;have hfz22_0:=blk_frozen BK107.out 0;have hfz22_1:=blk_frozen BK107.out 1;have hfz22_2:=blk_frozen BK107.out 2;have hfz22_3:=blk_frozen BK107.out 3;have hfz22_4:=blk_frozen BK107.out 4)|(go_at_call 24;(with_reducible refine (hunk_Right.calls k1 ((rd_T41 l0 x9_1).f0) ((rd_T41 l0 x9_1).f1) ((rd_T41 l0 x9_1).f2) ((rd_T41 l0 x9_1).f3) _ _ ((rd_T41 l0 x9_1).f4) false _ ?side1 ?side2 A5.out).mono ?_);(case side1=>exact Kd.C_below HR106_4.out bel);(case side2=>exact HC106_4.out);rintro e w23 ⟨rfl,hb⟩;have n0_:=Aside0.mk (blk_below (g:=gb107) (o:=.cells #[.int .i64 ((rd_T41 l0 x9_1).f0),.int .i64 ((rd_T41 l0 x9_1).f1),.int .i64 ((rd_T41 l0 x9_1).f2),.int .i64 ((rd_T41 l0 x9_1).f3),.slice A106_4 ((rd_T41 l0 x9_1).f4).length c106_4] 41 (0,0)) (by (with_reducible repeat (first|refine blk_drewN ?_ _|refine blk_drew ?_|refine blk_alloc ?_ _));refine blk_put (cs:=#[.int .i64 ((rd_T41 l0 x9_1).f0),.int .i64 ((rd_T41 l0 x9_1).f1),.int .i64 ((rd_T41 l0 x9_1).f2),.int .i64 ((rd_T41 l0 x9_1).f3),.slice none 0 0]) ?_ 4 _ rfl;(with_reducible repeat (first|refine blk_drewN ?_ _|refine blk_drew ?_|refine blk_alloc ?_ _));refine blk_put (cs:=#[.int .i64 ((rd_T41 l0 x9_1).f0),.int .i64 ((rd_T41 l0 x9_1).f1),.int .i64 ((rd_T41 l0 x9_1).f2),.int .i64 0,.slice none 0 0]) ?_ 3 _ rfl;(with_reducible repeat (first|refine blk_drewN ?_ _|refine blk_drew ?_|refine blk_alloc ?_ _));refine blk_put (cs:=#[.int .i64 ((rd_T41 l0 x9_1).f0),.int .i64 ((rd_T41 l0 x9_1).f1),.int .i64 0,.int .i64 0,.slice none 0 0]) ?_ 2 _ rfl;(with_reducible repeat (first|refine blk_drewN ?_ _|refine blk_drew ?_|refine blk_alloc ?_ _));refine blk_put (cs:=#[.int .i64 ((rd_T41 l0 x9_1).f0),.int .i64 0,.int .i64 0,.int .i64 0,.slice none 0 0]) ?_ 1 _ rfl;(with_reducible repeat (first|refine blk_drewN ?_ _|refine blk_drew ?_|refine blk_alloc ?_ _));refine blk_put (cs:=#[.int .i64 0,.int .i64 0,.int .i64 0,.int .i64 0,.slice none 0 0]) ?_ 0 _ rfl;(with_reducible repeat (first|refine blk_drewN ?_ _|refine blk_drew ?_|refine blk_alloc ?_ _));exact BK107.out) hb);have n1_:=Aside0.mk (below_step bel hb);clear BK107;clear HB;have BK107:=n0_;have HB:=n1_;clear n0_ n1_;(try clear hb);(try clear hb2);(try clear hk);(try clear hi)))
       go_ret
       exact ⟨by first|rfl|(simp [errW_none,errW_some]<;>rfl)|(simp [*,errW_none,errW_some]<;>rfl),bel⟩
     ·rw [if_neg c4] at H
      exact absurd H (by simp)
    ·rw [if_neg c3] at H
     exact absurd H (by simp)
   ·rw [if_neg c2] at H
    have c2b0:decide (x9_1<(l0.length:Int))=false:=decide_eq_false c2
    clear c2
    obtain rfl:=Option.some.inj H
    go_wp2
    go_ret
    exact ⟨by first|rfl|(simp [errW_none,errW_some]<;>rfl)|(simp [*,errW_none,errW_some]<;>rfl),bel⟩






end Go.Proofs.Ytoaijganmfijmaa.Pr
-- shrunk
/-
Whether hunks are right, as package apply tells, in plain Lean.
-/
namespace Go.Proofs.Ytoaijganmfijmaa.Pr
open Go.RowKit Go.Proofs.YtoaijganmfijmaaW.PrintWords Go.Proofs.YtoaijganmfijmaaW.PrintLast Go.Proofs.YtoaijganmfijmaaW.PrintMore
theorem ARight_l0 (l:List Hk) (hn:l.length≤1024) (hs:∀ h ∈ l,h.f4.length≤65536 ∧ -1099511627776≤h.f0∧h.f0≤1099511627776 ∧ -1099511627776≤h.f2∧h.f2≤1099511627776) :
  ∀ (d i:Nat) (en more:Int),l.length - i=d→i≤l.length → -(65536 * (i:Int))≤more→more≤65536 * (i:Int)→Ev (fun k=>apply_Right.l0 k en more l (l.length:Int) (i:Int)) (rightP en more (l.drop i)):=by
 intro d
 induction d with
 | zero =>
  intro i en more hd hi h1 h2
  refine Ev.step (fun _=>apply_Right.l0.eq_2 ..) ?_
  simp only [if_neg (show ¬ (i:Int)<(l.length:Int) by omega)]
  rw [List.drop_of_length_le (by omega)]
  exact Ev.now _
 | succ d ih =>
  intro i en more hd hi h1 h2
  have hlt:i<l.length:=by omega
  have hm:=hs l[i] (List.getElem_mem hlt)
  refine Ev.step (fun _=>apply_Right.l0.eq_2 ..) ?_
  simp only [if_pos (show (i:Int)<(l.length:Int) by omega),if_pos (show (0:Int)≤(i:Int) by omega),rdH_at hlt]
  rw [List.drop_eq_getElem_cons hlt,rightP]
  generalize l[i]=h at hm ⊢
  have hr:=HRight_ev h.f0 h.f1 h.f2 h.f3 h.f4 (by omega)
  rw [right_same] at hr
  refine Ev.bind hr ?_
  cases hrl:rightL h.f0 h.f1 h.f2 h.f3 h.f4 with
  | false =>
   simp only [Bool.false_and,Bool.false_eq_true,if_false]
   exact Ev.now _
  | true =>
   have hz:=rightL_size hrl
   have hm45:=manyL_le 45 h.f4
   have hm43:=manyL_le 43 h.f4
   simp only [Bool.true_and,if_true]
   by_cases c1:h.f0<en
   ·rw [decide_eq_false (by omega)]
    simp only [if_pos c1,Bool.false_and]
    exact Ev.now _
   rw [decide_eq_true (show en≤h.f0 by omega)]
   simp only [if_neg c1,Bool.true_and]
   rw [show wrap64 (h.f0+more)=h.f0+more by unfold wrap64;omega,show wrap64 (h.f0+h.f1)=h.f0+h.f1 by unfold wrap64;omega,show wrap64 (wrap64 (more+h.f3) - h.f1)=more+h.f3 - h.f1 by unfold wrap64;omega,show wrap64 ((i:Int)+1)=((i+1:Nat):Int) by unfold wrap64;omega]
   by_cases c2:h.f2=h.f0+more
   ·rw [decide_eq_true c2]
    simp only [if_pos c2,Bool.true_and]
    exact ih (i+1) _ _ (by omega) (by omega) (by push_cast;omega) (by push_cast;omega)
   rw [decide_eq_false c2]
   simp only [if_neg c2,Bool.false_and]
   exact Ev.now _
theorem ARight_ev {a:List ByteArray} {l:List Hk} (h:SmallA a l):Ev (fun k=>apply_Right.f k l) (rightP 0 0 l):=by
 have h1:=ARight_l0 l h.2.1 h.2.2 _ 0 0 0 rfl (by omega) (by simp) (by simp)
 exact h1
end Go.Proofs.Ytoaijganmfijmaa.Pr
-- shrunk
/-
Lines of a hunk that is right are blocks.
-/
namespace Go.Proofs.Ytoaijganmfijmaa.Pr
open Go.RowKit Go.Proofs.YtoaijganmfijmaaW.PrintWords Go.Proofs.YtoaijganmfijmaaW.PrintLast Go.Proofs.YtoaijganmfijmaaW.PrintMore
theorem blk_big_of (M:Nat) (hM:M≤4611686018427387904):∀ (bs:List Blk) (t:List ByteArray),(∀ s ∈ blkLines bs t,s.size≤M)→blkBig bs
 | [],t,h=>trivial
 | b :: bs,t,h=>by
  refine ⟨fun s hs=>?_,blk_big_of M hM bs t (fun s hs=>h s (by simp only [blkLines,List.mem_append];exact Or.inr (Or.inr (Or.inr hs))))⟩
  have key:∀ c:UInt8,sg c s ∈ blkLines (b :: bs) t→s.size≤4611686018427387904:=fun c hc=>by
   have:=h _ hc
   rw [sg_size] at this
   omega
  rcases List.mem_append.1 hs with hs|hs
  ·exact key 45 (by simp only [blkLines,List.mem_append];exact Or.inr (Or.inl (List.mem_map.2 ⟨s,hs,rfl⟩)))
  ·exact key 43 (by simp only [blkLines,List.mem_append];exact Or.inr (Or.inr (Or.inl (List.mem_map.2 ⟨s,hs,rfl⟩))))
theorem blkLines_len_eq:∀ (bs:List Blk) (t:List ByteArray),oldN bs+t.length≤(blkLines bs t).length∧newN bs+t.length≤(blkLines bs t).length∧bs.length≤(blkLines bs t).length+bs.length
 | [],t=>by simp [blkLines,sgs_len,oldN,newN]
 | b :: bs,t=>by
  have:=blkLines_len_eq bs t
  simp only [blkLines,List.length_append,sgs_len,oldN,newN,List.length_cons];omega
end Go.Proofs.Ytoaijganmfijmaa.Pr
-- shrunk
-- written by a program of this session's (a turned copy of the kit's printer); Lean checks it
namespace Go.Proofs.Ytoaijganmfijmaa.Pr
open Go.RowKit Go.Proofs.YtoaijganmfijmaaW.PrintWords Go.Proofs.YtoaijganmfijmaaW.PrintLast Go.Proofs.YtoaijganmfijmaaW.PrintMore
attribute [local go_sem] max2_int min2_int max_two min_two max_three min_three max_four min_four   -- for this text's walks alone

def apply_Turn.l0:Nat→List (S41)→List (S41)→Int→Int→Option ((List (S41)))
 | 0,_,_,_,_=>none
 | k+1,x3,x9,x10,x11=>if x11<x10 then (if 0≤x11 then (if x11<(x9.length:Int) then ((hunk_Turn.f k ((rd_T41 x9 x11).f0) ((rd_T41 x9 x11).f1) ((rd_T41 x9 x11).f2) ((rd_T41 x9 x11).f3) ((rd_T41 x9 x11).f4)).bind fun bt186=>(if x3.length<2513169434916 then (apply_Turn.l0 k (x3++[(⟨bt186.1,bt186.2.1,bt186.2.2.1,bt186.2.2.2.1,bt186.2.2.2.2⟩:S41)]) x9 x10 (wrap64 (x11+1))) else (none))) else (none)) else (none)) else (some x3)
def apply_Turn.f (k:Nat) (l0:List (S41)):Option ((List (S41))):=(apply_Right.f k l0).bind fun t183=>(if t183=true then (apply_Turn.l0 k ([]:List (S41)) l0 (l0.length:Int) 0) else (some ([]:List (S41))))
theorem apply_Turn.mono_l:∀ k,(∀ y0 y1 y2 y3,LeO (apply_Turn.l0 k y0 y1 y2 y3) (apply_Turn.l0 (k+1) y0 y1 y2 y3))
 | 0=>fun _ _ _ _ r h=>by simp [apply_Turn.l0] at h
 | k+1=>by
  have ih0:=apply_Turn.mono_l k
  ·intro y0 y1 y2 y3
   unfold apply_Turn.l0
   repeat' first
   | (with_reducible exact ih0 _ _ _ _)
   | (with_reducible exact apply_Right.mono _ _)
   | (with_reducible exact hunk_Turn.mono _ _ _ _ _ _)
   | (with_reducible exact LeO.refl _)
   | (with_reducible exact LeO.none _)
   | (with_reducible refine LeO.ite ?_ ?_)
   | (with_reducible refine LeO.bind ?_ (fun _=>?_))
   | exact ih0 _ _ _ _
   | exact apply_Right.mono _ _
   | exact hunk_Turn.mono _ _ _ _ _ _
   | exact LeO.none _
   | refine LeO.ite ?_ ?_
   | refine LeO.bind ?_ (fun _=>?_)
theorem apply_Turn.mono:∀ a0 k,LeO (apply_Turn.f k a0) (apply_Turn.f (k+1) a0):=by
 intro a0 k
 have ih0:=apply_Turn.mono_l k
 unfold apply_Turn.f
 repeat' first
   | (with_reducible exact ih0 _ _ _ _)
   | (with_reducible exact apply_Right.mono _ _)
   | (with_reducible exact hunk_Turn.mono _ _ _ _ _ _)
   | (with_reducible exact LeO.refl _)
   | (with_reducible exact LeO.none _)
   | (with_reducible refine LeO.ite ?_ ?_)
   | (with_reducible refine LeO.bind ?_ (fun _=>?_))
   | exact ih0 _ _ _ _
   | exact apply_Right.mono _ _
   | exact hunk_Turn.mono _ _ _ _ _ _
   | exact LeO.none _
   | refine LeO.ite ?_ ?_
   | refine LeO.bind ?_ (fun _=>?_)
set_option maxHeartbeats 8000000 in
set_option maxRecDepth 100000 in
theorem apply_Turn.calls (k:Nat) (A0:Option Addr) (c0:Nat) (l0:List (S41)) (r:List (S41)) (w:World) (hr0:Kd.C k41 w A0 l0.length l0) (hc0:l0.length≤c0) (h:apply_Turn.f k l0=some r) :
  Calls Try.prog 18 #[.slice A0 l0.length c0] w fun e w'=>∃ v0_:Value,e=.returned (v0_)∧Kd.S k41 41 w' w.heap.size (fun _=>True) v0_ r∧Below w.heap.size w w':=by
 have hu41:=Try.underlying41
 have HR0:=Aside0.mk hr0
 have HC0:=Aside0.mk hc0
 clear hr0 hc0
 have HB:=Aside0.mk (Below.refl w.heap.size w)
 have H:((apply_Right.f k l0).bind fun t183=>(if t183=true then (apply_Turn.l0 k ([]:List (S41)) l0 (l0.length:Int) 0) else (some ([]:List (S41)))))=some r:=h
 clear h
 replace H:=Option.bind_eq_some_iff.mp H
 obtain ⟨t183,A20,H⟩:=H
 replace H:(if t183=true then (apply_Turn.l0 k ([]:List (S41)) l0 (l0.length:Int) 0) else (some ([]:List (S41))))=some r:=H
 have A2:=Aside0.mk A20
 clear A20
 by_cases c3:t183=true
 rotate_left
 ·replace c3:=Bool.eq_false_iff.mpr c3
  subst c3
  have H1:(some ([]:List (S41)))=some r:=by rw [if_neg (show ¬ (false=true) by decide)] at H;exact H
  clear H
  have H:=H1
  clear H1
  obtain rfl:=Option.some.inj H
  go_enter Try.func18,Try.ntmps18
  go_wp2_with (((with_reducible refine gate_callee (f:=15) rfl ?_);refine goesL_ (some 7) rfl rfl Try.func15 (by kernel_rfl) rfl #[.slice A0 l0.length c0] rfl (by (try simp only [List.map_toArray,List.map_cons,List.map_nil]);first|done|rfl|(simp only [List.length_drop,List.length_take];rfl)) ?_;(with_reducible refine (apply_Right.calls k _ _ l0 false _ ?side1 ?side2 A2.out).mono ?_);(case side1=>repeat (first|exact HR0.out|(with_reducible refine Kd.C_alloc ?_ _)|(with_reducible refine Kd.C_drewN ?_ _)|(with_reducible refine Kd.C_drew ?_)));(case side2=>exact HC0.out);rintro e w17 ⟨rfl,hb⟩;refine ⟨_,rfl,?_⟩;have n0_:=Aside0.mk (below_step bel hb);clear HB;have HB:=n0_;clear n0_;(try clear hb);(try clear hb2);(try clear hk);(try clear hi)))
  go_ret
  exact ⟨_,by first|rfl|(simp [errW_none,errW_some]<;>rfl)|(simp [*,errW_none,errW_some]<;>rfl),by first|exact Kd.S_nil _ _ _ _ _|exact Kd.N_nil _ _ _ _ _|exact Kd.V_nil _ _ _ _ _|exact Kd.Q_nil _ _ _ _ _|exact Kd.R_nil _ _ _ _ _,bel⟩

 subst c3
 have H1:(apply_Turn.l0 k ([]:List (S41)) l0 (l0.length:Int) 0)=some r:=by rw [if_pos rfl] at H;exact H
 clear H
 have H:=H1
 clear H1
 have H':=Aside0.mk H
 clear H
 go_enter Try.func18,Try.ntmps18
 go_wp2_with (((with_reducible refine gate_callee (f:=15) rfl ?_);refine goesL_ (some 7) rfl rfl Try.func15 (by kernel_rfl) rfl #[.slice A0 l0.length c0] rfl (by (try simp only [List.map_toArray,List.map_cons,List.map_nil]);first|done|rfl|(simp only [List.length_drop,List.length_take];rfl)) ?_;(with_reducible refine (apply_Right.calls k _ _ l0 true _ ?side1 ?side2 A2.out).mono ?_);(case side1=>repeat (first|exact HR0.out|(with_reducible refine Kd.C_alloc ?_ _)|(with_reducible refine Kd.C_drewN ?_ _)|(with_reducible refine Kd.C_drew ?_)));(case side2=>exact HC0.out);rintro e w4 ⟨rfl,hb⟩;refine ⟨_,rfl,?_⟩;have n0_:=Aside0.mk (below_step bel hb);clear HB;have HB:=n0_;clear n0_;(try clear hb);(try clear hb2);(try clear hk);(try clear hi)))
 go_loopg [3,11] k (fun kq v3 v11 w'=>∃ (x3_1:List (S41)) (x11_1:Int),v11=.int .i64 x11_1∧Aside0 (apply_Turn.l0 kq x3_1 l0 (l0.length:Int) x11_1=some r)∧Aside0 (kq≤k)∧Aside0 (Kd.S k41 41 w' w.heap.size (fun _=>True) v3 x3_1)∧Aside0 (Below w.heap.size w w'))
 case atStart=>exact ⟨(([]:List (S41))),(0),rx,H',⟨Nat.le_refl _⟩,⟨by first|exact Kd.S_nil _ _ _ _ _|exact Kd.N_nil _ _ _ _ _|exact Kd.V_nil _ _ _ _ _|exact Kd.Q_nil _ _ _ _ _|exact Kd.R_nil _ _ _ _ _⟩,⟨by repeat (first|(with_reducible first|exact HB.out|apply below_alloc|apply pw_below_drewN|apply below_drew1)|exact HB.out)⟩⟩
 case round =>
  clear H'
  try clear c1
  try clear p2
  try clear c3
  obtain ⟨x3_1,x11_1,rfl,HA,HK1,HO_3,HB⟩:=hrel
  cases gk with
  | zero=>exact absurd HA.out (by simp [apply_Turn.l0])
  | succ k1 =>
   have H:=HA.out
   clear HA
   simp only [apply_Turn.l0] at H
   by_cases c5:x11_1<(l0.length:Int)
   rotate_left
   ·rw [if_neg c5] at H
    have c5b0:decide (x11_1<(l0.length:Int))=false:=decide_eq_false c5
    clear c5
    obtain rfl:=Option.some.inj H
    go_wp2
    go_ret
    exact ⟨_,by first|rfl|(simp [errW_none,errW_some]<;>rfl)|(simp [*,errW_none,errW_some]<;>rfl),by (with_reducible repeat (first|apply Kd.S_alloc|apply Kd.S_drewN|apply Kd.S_drew));exact HO_3.out,bel⟩
   rw [if_pos c5] at H
   have c5b0:decide (x11_1<(l0.length:Int))=true:=decide_eq_true c5
   clear c5
   by_cases c6:0≤x11_1
   rotate_left
   ·rw [if_neg c6] at H
    exact absurd H (by simp)
   rw [if_pos c6] at H
   have c6b0:decide (0≤x11_1)=true:=decide_eq_true c6
   clear c6
   by_cases c7:x11_1<(l0.length:Int)
   rotate_left
   ·rw [if_neg c7] at H
    exact absurd H (by simp)
   rw [if_pos c7] at H
   have c7b0:decide (x11_1<(l0.length:Int))=true:=decide_eq_true c7
   clear c7
   replace H:=Option.bind_eq_some_iff.mp H
   obtain ⟨⟨t186,t187,t188,t189,t190⟩,A80,H⟩:=H
   replace H:(if x3_1.length<2513169434916 then (apply_Turn.l0 k1 (x3_1++[(⟨t186,t187,t188,t189,t190⟩:S41)]) l0 (l0.length:Int) (wrap64 (x11_1+1))) else (none))=some r:=H
   have A8:=Aside0.mk A80
   clear A80
   by_cases c9:x3_1.length<2513169434916
   rotate_left
   ·rw [if_neg c9] at H
    exact absurd H (by simp)
   rw [if_pos c9] at H
   have LMc9:=Aside0.mk c9
   clear c9
   obtain ⟨y193,hy193⟩:∃ y_:List (S41),y_=(x3_1++[(⟨t186,t187,t188,t189,t190⟩:S41)]):=⟨_,rfl⟩
   replace H:(apply_Turn.l0 k1 y193 l0 (l0.length:Int) (wrap64 (x11_1+1)))=some r:=by first|(rw [hy193];with_reducible exact H)|(have H2_:=(Option.bind_some _ _).symm.trans H;rw [hy193];with_reducible exact H2_)|(have H2_:=(Option.bind_some _ _).symm.trans H;with_reducible exact H2_)|with_reducible exact H|(rw [hy193];exact H)|exact H
   have Ny193:=Aside0.mk hy193
   clear hy193
   have H':=Aside0.mk H
   clear H
   have p184:0≤(x11_1:Int):=of_decide_eq_true asm
   have q184:x11_1<(l0.length:Int):=of_decide_eq_true asm
   obtain ⟨ad184,A184_4,c184_4,e184,hx184_0,hx184_1,hx184_2,hx184_3,hx184_4,hl184_4,hi184_4⟩:=at_T41 HR0.out x11_1 p184 q184
   cases e184
   replace hx184_0:=pw_cell_below HB.out hx184_0
   replace hx184_1:=pw_cell_below HB.out hx184_1
   replace hx184_2:=pw_cell_below HB.out hx184_2
   replace hx184_3:=pw_cell_below HB.out hx184_3
   replace hx184_4:=pw_cell_below HB.out hx184_4
   have HR184_4:=Aside0.mk hi184_4
   have HC184_4:=Aside0.mk hl184_4
   clear hi184_4 hl184_4
   replace p184:=eq_true p184
   replace q184:=eq_true q184
   go_wp2_with (first|((with_reducible refine gate_dst (N:=5) rfl ?_);refine box_event ?hg (N:=5) ?hd (cs:=#[.int .i64 0,.int .i64 0,.int .i64 0,.int .i64 0,.slice none 0 0]) (t:=41) ?hr ?_;(case hd=>rfl);(case hg=>rfl);(case hr=>first|(go_simp;done)|(go_simp;rfl));intro gb185 hg w10 hbox hb;have n0_:=Aside0.mk (Kd.S_below (Kd.S_elderB (by (with_reducible repeat (first|apply Kd.S_alloc|apply Kd.S_drewN|apply Kd.S_drew));exact HO_3.out) gb185 (Nat.le_of_eq hg.symm)) hb);have n1_:=Aside0.mk (below_step bel hb);have n2_:=Aside0.mk (hbox);have n3_:=Aside0.mk ((szl:w.heap.size≤gb185));have n4_:=Aside0.mk ((szl:w.heap.size≤gb185));clear HO_3;clear HB;have HO_3:=n0_;have HB:=n1_;have BK185:=n2_;have GW185:=n3_;have GE185:=n4_;clear n0_ n1_ n2_ n3_ n4_;clear hb hbox hg;have hcz11_0:w10.cell? ⟨gb185,0,none⟩=some (.int .i64 0):=(blk_cell BK185.out 0).trans rfl;have hcz11_1:w10.cell? ⟨gb185,1,none⟩=some (.int .i64 0):=(blk_cell BK185.out 1).trans rfl;have hcz11_2:w10.cell? ⟨gb185,2,none⟩=some (.int .i64 0):=(blk_cell BK185.out 2).trans rfl;have hcz11_3:w10.cell? ⟨gb185,3,none⟩=some (.int .i64 0):=(blk_cell BK185.out 3).trans rfl;have hcz11_4:w10.cell? ⟨gb185,4,none⟩=some (.slice none 0 0):=(blk_cell BK185.out 4).trans rfl;have hfz11_0:=blk_frozen BK185.out 0;have hfz11_1:=blk_frozen BK185.out 1;have hfz11_2:=blk_frozen BK185.out 2;have hfz11_3:=blk_frozen BK185.out 3;have hfz11_4:=blk_frozen BK185.out 4)|((with_reducible refine gate_store (t:=41) (p:=5) rfl ?_);refine store_event (t:=41) (p:=5) (v:=?vo_w12) (w1:=(((((w10.setCell ⟨gb185,0,none⟩ (.int .i64 ((rd_T41 l0 x11_1).f0))).setCell ⟨gb185,1,none⟩ (.int .i64 ((rd_T41 l0 x11_1).f1))).setCell ⟨gb185,2,none⟩ (.int .i64 ((rd_T41 l0 x11_1).f2))).setCell ⟨gb185,3,none⟩ (.int .i64 ((rd_T41 l0 x11_1).f3))).setCell ⟨gb185,4,none⟩ (.slice A184_4 ((rd_T41 l0 x11_1).f4).length c184_4))) ?hg ?ho ?hn ?hr ?_;(case ho=>rfl);(case hg=>rfl);(case hn=>rfl);(case hr=>first|(go_simp;done)|(go_simp;rfl));intro w12 hw;have n0_:Aside0 (Kd.S k41 41 w12 w.heap.size (fun k_=>k_≠gb185) u3 x3_1):=⟨(by rw [hw];exact (by (with_reducible repeat (first|apply Kd.S_alloc|apply Kd.S_drewN|apply Kd.S_drew));exact Kd.S_mono (Kd.S_far (p:=⟨gb185,4,none⟩) (Kd.S_far (p:=⟨gb185,3,none⟩) (Kd.S_far (p:=⟨gb185,2,none⟩) (Kd.S_far (p:=⟨gb185,1,none⟩) (Kd.S_far (p:=⟨gb185,0,none⟩) (Kd.S_mono HO_3.out (fun k_ hk=>(⟨hk,hk.2⟩:_∧k_≠gb185))) (fun _ hk=>hk.2) (.int .i64 ((rd_T41 l0 x11_1).f0))) (fun _ hk=>hk.2) (.int .i64 ((rd_T41 l0 x11_1).f1))) (fun _ hk=>hk.2) (.int .i64 ((rd_T41 l0 x11_1).f2))) (fun _ hk=>hk.2) (.int .i64 ((rd_T41 l0 x11_1).f3))) (fun _ hk=>hk.2) (.slice A184_4 ((rd_T41 l0 x11_1).f4).length c184_4)) (fun _ hk=>hk.1.2)))⟩;have n1_:Aside0 (w12.heap[gb185]?=some (.cells #[.int .i64 ((rd_T41 l0 x11_1).f0),.int .i64 ((rd_T41 l0 x11_1).f1),.int .i64 ((rd_T41 l0 x11_1).f2),.int .i64 ((rd_T41 l0 x11_1).f3),.slice A184_4 ((rd_T41 l0 x11_1).f4).length c184_4] 41 (0,0))):=⟨(by rw [hw];exact (by (with_reducible repeat (first|refine blk_drewN ?_ _|refine blk_drew ?_|refine blk_alloc ?_ _));refine blk_put (cs:=#[.int .i64 ((rd_T41 l0 x11_1).f0),.int .i64 ((rd_T41 l0 x11_1).f1),.int .i64 ((rd_T41 l0 x11_1).f2),.int .i64 ((rd_T41 l0 x11_1).f3),.slice none 0 0]) ?_ 4 _ rfl;(with_reducible repeat (first|refine blk_drewN ?_ _|refine blk_drew ?_|refine blk_alloc ?_ _));refine blk_put (cs:=#[.int .i64 ((rd_T41 l0 x11_1).f0),.int .i64 ((rd_T41 l0 x11_1).f1),.int .i64 ((rd_T41 l0 x11_1).f2),.int .i64 0,.slice none 0 0]) ?_ 3 _ rfl;(with_reducible repeat (first|refine blk_drewN ?_ _|refine blk_drew ?_|refine blk_alloc ?_ _));refine blk_put (cs:=#[.int .i64 ((rd_T41 l0 x11_1).f0),.int .i64 ((rd_T41 l0 x11_1).f1),.int .i64 0,.int .i64 0,.slice none 0 0]) ?_ 2 _ rfl;(with_reducible repeat (first|refine blk_drewN ?_ _|refine blk_drew ?_|refine blk_alloc ?_ _));refine blk_put (cs:=#[.int .i64 ((rd_T41 l0 x11_1).f0),.int .i64 0,.int .i64 0,.int .i64 0,.slice none 0 0]) ?_ 1 _ rfl;(with_reducible repeat (first|refine blk_drewN ?_ _|refine blk_drew ?_|refine blk_alloc ?_ _));refine blk_put (cs:=#[.int .i64 0,.int .i64 0,.int .i64 0,.int .i64 0,.slice none 0 0]) ?_ 0 _ rfl;(with_reducible repeat (first|refine blk_drewN ?_ _|refine blk_drew ?_|refine blk_alloc ?_ _));exact BK185.out))⟩;have n2_:Aside0 (Below w.heap.size w w12):=⟨(by rw [hw];exact bel)⟩;clear hw;clear HO_3;clear BK185;clear HB;have HO_3:=n0_;have BK185:=n1_;have HB:=n2_;clear n0_ n1_ n2_;have hcz13_0:w12.cell? ⟨gb185,0,none⟩=some (.int .i64 ((rd_T41 l0 x11_1).f0)):=(blk_cell BK185.out 0).trans rfl;have hcz13_1:w12.cell? ⟨gb185,1,none⟩=some (.int .i64 ((rd_T41 l0 x11_1).f1)):=(blk_cell BK185.out 1).trans rfl;have hcz13_2:w12.cell? ⟨gb185,2,none⟩=some (.int .i64 ((rd_T41 l0 x11_1).f2)):=(blk_cell BK185.out 2).trans rfl;have hcz13_3:w12.cell? ⟨gb185,3,none⟩=some (.int .i64 ((rd_T41 l0 x11_1).f3)):=(blk_cell BK185.out 3).trans rfl;have hcz13_4:w12.cell? ⟨gb185,4,none⟩=some (.slice A184_4 ((rd_T41 l0 x11_1).f4).length c184_4):=(blk_cell BK185.out 4).trans rfl;have hfz13_0:=blk_frozen BK185.out 0;have hfz13_1:=blk_frozen BK185.out 1;have hfz13_2:=blk_frozen BK185.out 2;have hfz13_3:=blk_frozen BK185.out 3;have hfz13_4:=blk_frozen BK185.out 4)|((with_reducible refine gate_callee (f:=27) rfl ?_);refine goesL_ (some 17) rfl rfl Try.func27 (by kernel_rfl) rfl #[.agg #[.int .i64 ((rd_T41 l0 x11_1).f0),.int .i64 ((rd_T41 l0 x11_1).f1),.int .i64 ((rd_T41 l0 x11_1).f2),.int .i64 ((rd_T41 l0 x11_1).f3),.slice A184_4 ((rd_T41 l0 x11_1).f4).length c184_4]] rfl (by (try simp only [List.map_toArray,List.map_cons,List.map_nil]);first|done|rfl|(simp only [List.length_drop,List.length_take];rfl)) ?_;(with_reducible refine (hunk_Turn.calls k1 ((rd_T41 l0 x11_1).f0) ((rd_T41 l0 x11_1).f1) ((rd_T41 l0 x11_1).f2) ((rd_T41 l0 x11_1).f3) (fun k_=>k_<w.heap.size) _ _ ((rd_T41 l0 x11_1).f4) t186 t187 t188 t189 t190 _ ?side1 A8.out).mono ?_);(case side1=>exact Kd.V_mk HC184_4.out (Kd.F_below (Kd.C_F Kd.heap_string HR184_4.out) bel));rintro e w14 ⟨v191,rfl,ho0,hb⟩;refine ⟨_,rfl,?_⟩;have n0_:=Aside0.mk (Kd.S_elder' (by (with_reducible repeat (first|apply Kd.S_alloc|apply Kd.S_drewN|apply Kd.S_drew));exact HO_3.out) (Kd.R_base ho0) hb);have n1_:=Aside0.mk (Kd.R_lower (Kd.R_mono (ok':=fun k_=>True) ho0 (fun _ hk_=>trivial)) (below_size bel));have n2_:=Aside0.mk (blk_below (g:=gb185) (o:=.cells #[.int .i64 ((rd_T41 l0 x11_1).f0),.int .i64 ((rd_T41 l0 x11_1).f1),.int .i64 ((rd_T41 l0 x11_1).f2),.int .i64 ((rd_T41 l0 x11_1).f3),.slice A184_4 ((rd_T41 l0 x11_1).f4).length c184_4] 41 (0,0)) (by (with_reducible repeat (first|refine blk_drewN ?_ _|refine blk_drew ?_|refine blk_alloc ?_ _));exact BK185.out) hb);have n3_:=Aside0.mk (below_step bel hb);clear HO_3;clear BK185;clear HB;have HO_3:=n0_;have HO192:=n1_;have BK185:=n2_;have HB:=n3_;clear n0_ n1_ n2_ n3_;(try clear hb);(try clear hb2);(try clear hk);(try clear hi);(try clear ho0);obtain ⟨Ao16,co16,eo16⟩:=Kd.R_slice HO192.out;subst eo16)|((with_reducible refine gate_builtin (b:=.append) (xs:=#[.tmp 15,.tmp 18]) rfl ?_);at_builtin;refine Kd.S_append k41 (w0:=w) w.heap.size rfl (.tmp 15) (.tmp 18) 23 41 (.agg #[(.int .i64 0),(.int .i64 0),(.int .i64 0),(.int .i64 0),(.slice none 0 0)]) 56 rfl Try.underlying23 info41 rfl (by decide) (by omega) u3 x3_1 (⟨t186,t187,t188,t189,t190⟩:S41) [.int .i64 t186,.int .i64 t187,.int .i64 t188,.int .i64 t189,.slice Ao16 t190.length co16] (fun k_=>k_≠gb185) (fun k_=>some k_=(.slice Ao16 t190.length co16:Value).ownBlock) rfl rfl ?aP (fun k_ hk_=>((Kd.R_mono (ok':=fun k_=>((fun k_=>k_≠gb185)) k_∧some k_≠(u3:Value).ownBlock) (Kd.R_types (Kd.R_apart' (HO192.out) (Kd.S_typed HO_3.out) (by decide)) BK185.out (by decide)) (fun k_ hk=>⟨hk.2,hk.1.2⟩))).1 k_ hk_.symm) ?aF ?aO ?aB ?aS ?aL ?_;(case aP=>exact k41_mkM _ _ _ (⟨t186,t187,t188,t189,t190⟩:S41) (Kd.R_mono (Kd.R_tight rfl (Kd.R_mono (ok':=fun k_=>((fun k_=>k_≠gb185)) k_∧some k_≠(u3:Value).ownBlock) (Kd.R_types (Kd.R_apart' (HO192.out) (Kd.S_typed HO_3.out) (by decide)) BK185.out (by decide)) (fun k_ hk=>⟨hk.2,hk.1.2⟩))) (fun _ h_=>h_)));(case aB=>exact bel);(case aF=>exact (fun k_ hk=>Kd.freshB (g:=gb185) (o:=.cells #[.int .i64 ((rd_T41 l0 x11_1).f0),.int .i64 ((rd_T41 l0 x11_1).f1),.int .i64 ((rd_T41 l0 x11_1).f2),.int .i64 ((rd_T41 l0 x11_1).f3),.slice A184_4 ((rd_T41 l0 x11_1).f4).length c184_4] 41 (0,0)) (by (with_reducible repeat (first|refine blk_drewN ?_ _|refine blk_drew ?_|refine blk_alloc ?_ _));exact BK185.out) k_ hk));(case aO=>exact (by (with_reducible repeat (first|apply Kd.S_alloc|apply Kd.S_drewN|apply Kd.S_drew));exact Kd.S_mono HO_3.out (fun k_ hk=>⟨hk.1,fun e_=>hk.2 e_⟩)));(case aS=>exact (below_size bel));(case aL=>have:=LMc9.out;omega);intro v194 w15 ho hb hg hat;rw [← Ny193.out] at ho;have n0_:=Aside0.mk (blk_grown (g:=gb185) (o:=.cells #[.int .i64 ((rd_T41 l0 x11_1).f0),.int .i64 ((rd_T41 l0 x11_1).f1),.int .i64 ((rd_T41 l0 x11_1).f2),.int .i64 ((rd_T41 l0 x11_1).f3),.slice A184_4 ((rd_T41 l0 x11_1).f4).length c184_4] 41 (0,0)) (by (with_reducible repeat (first|refine blk_drewN ?_ _|refine blk_drew ?_|refine blk_alloc ?_ _));exact BK185.out) hg (Kd.S_away HO_3.out (fun _ hk=>hk.1)));have n1_:=Aside0.mk (hb);have n2_:=Aside0.mk (ho);clear BK185;clear HB;clear HO_3;clear HO192;have BK185:=n0_;have HB:=n1_;have HO195:=n2_;clear n0_ n1_ n2_;clear ho hb hg hat))
   go_roundg k1
   case measure=>have:=HK1.out;omega
   case rel=>exact ⟨(y193),(wrap64 (x11_1+1)),rx,H',⟨by have:=HK1.out;omega⟩,⟨by (with_reducible repeat (first|apply Kd.S_alloc|apply Kd.S_drewN|apply Kd.S_drew));exact Kd.S_mono HO195.out (fun _ hk=>trivial)⟩,⟨by repeat (first|(with_reducible first|exact HB.out|apply below_alloc|apply pw_below_drewN|apply below_drew1|refine below_set ?_ GE185.out)|exact HB.out)⟩⟩
end Go.Proofs.Ytoaijganmfijmaa.Pr
-- shrunk
/-
Hunks the other way round, as package apply tells, in plain Lean.
-/
namespace Go.Proofs.Ytoaijganmfijmaa.Pr
open Go.RowKit Go.Proofs.YtoaijganmfijmaaW.PrintWords Go.Proofs.YtoaijganmfijmaaW.PrintLast Go.Proofs.YtoaijganmfijmaaW.PrintMore
def BigL (l:List Hk):Prop:=∀ h ∈ l,h.f4.length≤65536∧∀ s ∈ h.f4,s.size≤4611686018427387904
theorem ATurn_l0:∀ (l m x:List Hk) (i:Nat) (out:List Hk),x.drop i=l→i+l.length=x.length→Turned l m→BigL l→x.length≤1048576→out.length≤i →
  Ev (fun k=>apply_Turn.l0 k out x (x.length:Int) (i:Int)) (out++m)
 | [],m,x,i,out,hd,hi,ht,hb,hx,ho=>by
  cases m with
  | cons _ _=>exact ht.elim
  | nil =>
   refine Ev.step (fun _=>apply_Turn.l0.eq_2 ..) ?_
   simp only [List.length_nil,Nat.add_zero] at hi
   simp only [if_neg (show ¬ (i:Int)<(x.length:Int) by omega),List.append_nil]
   exact Ev.now _
 | h :: l,m,x,i,out,hd,hi,ht,hb,hx,ho=>by
  cases m with
  | nil=>exact ht.elim
  | cons y m =>
   obtain ⟨⟨A,An,B,Bn,bs,t,rfl,rfl,hok⟩,htr⟩:=ht
   simp only [List.length_cons] at hi
   have hlt:i<x.length:=by omega
   rw [List.drop_eq_getElem_cons hlt] at hd
   injection hd with hd1 hd2
   have hbx:=hb _ List.mem_cons_self
   refine Ev.step (fun _=>apply_Turn.l0.eq_2 ..) ?_
   simp only [if_pos (show (i:Int)<(x.length:Int) by omega),if_pos (show (0:Int)≤(i:Int) by omega),rdH_at hlt,w_succ hlt (show x.length≤4611686018427387904 by omega),hd1]
   have hle:=blkLines_len_eq bs t
   have hsz:blkBig bs:=blk_big_of 4611686018427387904 (by omega) bs t hbx.2
   have hnn:oldN bs+newN bs+t.length≤1099511627776:=by have:=hbx.1;simp only at this;omega
   refine Ev.bind (HTurn_ev A An B Bn bs t hok hsz hnn) ?_
   simp only [if_pos (show out.length<2513169434916 by omega)]
   have ih:=ATurn_l0 l m x (i+1) (out++[⟨B,Bn,A,An,blkLines (bs.map swapB) t⟩]) hd2 (by omega) htr (fun h hh=>hb h (List.mem_cons_of_mem _ hh)) hx (by rw [List.length_append,List.length_singleton];omega)
   rw [List.append_assoc] at ih
   exact ih
theorem ATurn_ev {a:List ByteArray} {l m:List Hk} (hs:SmallA a l) (hb:BigL l) (hr:rightP 0 0 l=true) (ht:Turned l m):Ev (fun k=>apply_Turn.f k l) m:=by
 unfold apply_Turn.f
 have h:=ARight_ev hs
 rw [hr] at h
 refine Ev.bind h ?_
 simp only [if_true]
 have:=hs.2.1
 have h0:=ATurn_l0 l m l 0 [] rfl (by simp) ht hb (by omega) (by simp)
 exact h0
theorem turned_len:∀ {l m:List Hk},Turned l m→m.length=l.length
 | [],[],_=>rfl
 | h :: l,y :: m,ht=>by simp only [List.length_cons,turned_len ht.2]
 | [],_ :: _,h=>h.elim
 | _ :: _,[],h=>h.elim
end Go.Proofs.Ytoaijganmfijmaa.Pr
-- shrunk
/-
apply's must and catch: what they do to a work; the text of an error.
-/
namespace Go.Proofs.Ytoaijganmfijmaa.Pr
open Go.RowKit Go.Proofs.YtoaijganmfijmaaW.PrintWords Go.Proofs.YtoaijganmfijmaaW.PrintLast Go.Proofs.YtoaijganmfijmaaW.PrintMore
theorem errno3 (w:World):Calls Try.prog 49 #[.int .i64 3] w fun e w'=>(∃ s,e=.returned (.string s))∧Below w.heap.size w w':=by
 have hix:∀ (s0 s1 s2 s3 s4 s5 s6 s7 s8 s9 s10 s11 s12 s13:ByteArray) (w:World),(Instr.index 74 (.agg #[.string s0,.string s1,.string s2,.string s3,.string s4,.string s5,.string s6,.string s7,.string s8,.string s9,.string s10,.string s11,.string s12,.string s13]) (.int .i64 3)).run Try.prog w=.ok (.string s3) w:=fun _ _ _ _ _ _ _ _ _ _ _ _ _ _ _=>by kernel_rfl
 go_enter Try.func49,Try.ntmps49
 go_wp2
 go_ret
 exact ⟨⟨_,rfl⟩,Below.refl _ _⟩
theorem errno6 (w:World):Calls Try.prog 49 #[.int .i64 6] w fun e w'=>(∃ s,e=.returned (.string s))∧Below w.heap.size w w':=by
 have hix:∀ (s0 s1 s2 s3 s4 s5 s6 s7 s8 s9 s10 s11 s12 s13:ByteArray) (w:World),(Instr.index 74 (.agg #[.string s0,.string s1,.string s2,.string s3,.string s4,.string s5,.string s6,.string s7,.string s8,.string s9,.string s10,.string s11,.string s12,.string s13]) (.int .i64 6)).run Try.prog w=.ok (.string s6) w:=fun _ _ _ _ _ _ _ _ _ _ _ _ _ _ _=>by kernel_rfl
 go_enter Try.func49,Try.ntmps49
 go_wp2
 go_ret
 exact ⟨⟨_,rfl⟩,Below.refl _ _⟩
theorem must_yes (p:Option Addr) (x:Int) (w:World):Calls Try.prog 35 #[.pointer p,.bool true,.int .i64 x] w fun e w'=>e=.returned (.tuple #[])∧w'=w:=by
 go_enter Try.func35,Try.ntmps35
 go_wp2
 go_end0
 exact ⟨rfl,rfl⟩
theorem must_no3 (b:Nat) (x:Int) (w:World) (hc:w.cell? ⟨b,2,none⟩=some (.int .i64 x)) (hf:w.frozen? ⟨b,2,none⟩=false) :
  Calls Try.prog 35 #[.pointer (some ⟨b,0,none⟩),.bool false,.int .i64 3] w fun e w'=>(∃ u pv,e=.panicked [{ v:=.iface u pv,recovered:=false }])∧Below (w.setCell ⟨b,2,none⟩ (.int .i64 3)).heap.size (w.setCell ⟨b,2,none⟩ (.int .i64 3)) w':=by
 go_enter Try.func35,Try.ntmps35
 go_wp2_with (go_at_call 49;refine (errno3 _).mono ?_;rintro e w' ⟨⟨s,rfl⟩,hb⟩;have HB:=Aside0.mk hb;clear hb)
 exact ⟨rfl,⟨_,_,rfl⟩,HB.out⟩
theorem must_no6 (b:Nat) (x:Int) (w:World) (hc:w.cell? ⟨b,2,none⟩=some (.int .i64 x)) (hf:w.frozen? ⟨b,2,none⟩=false) :
  Calls Try.prog 35 #[.pointer (some ⟨b,0,none⟩),.bool false,.int .i64 6] w fun e w'=>(∃ u pv,e=.panicked [{ v:=.iface u pv,recovered:=false }])∧Below (w.setCell ⟨b,2,none⟩ (.int .i64 6)).heap.size (w.setCell ⟨b,2,none⟩ (.int .i64 6)) w':=by
 go_enter Try.func35,Try.ntmps35
 go_wp2_with (go_at_call 49;refine (errno6 _).mono ?_;rintro e w' ⟨⟨s,rfl⟩,hb⟩;have HB:=Aside0.mk hb;clear hb)
 exact ⟨rfl,⟨_,_,rfl⟩,HB.out⟩
theorem catch_panicking (b:Nat) (v0:Value) (u:TypeId) (pv:Value) (older:List PanicEntry) (w:World) (hc:w.cell? ⟨b,0,none⟩=some v0) (hs:v0.oneCell'=true) (hz:w.frozen? ⟨b,0,none⟩=false) :
  CallsD Try.prog 34 #[.pointer (some ⟨b,0,none⟩)] (.panicking ({ v:=.iface u pv,recovered:=false } :: older)) w fun e u' w' =>
   e=.returned (.tuple #[])∧u'=.panicking ({ v:=.iface u pv,recovered:=true } :: older)∧w'=w.setCell ⟨b,0,none⟩ (.slice none 0 0):=by
 refine callsD_of_wpS Try.func34 rfl fun c₀ cs hu=>?_
 apply wpS_seq
 apply wpS_region
 simp [wpOpsS,go_sem,recoverD,hu,Try.ntmps34,Exit.thenS]
 refine wpS_cond (t:=true) (by simp [Act.eval,Array.replicate]) ?_
 simp only [if_true]
 apply wpS_region
 simp [wpOpsS,go_sem,hc,hz,bodyPostS,results,Try.results34]
theorem catch_idle (p:Option Addr) (w:World) :
  CallsD Try.prog 34 #[.pointer p] .returning w fun e u' w'=>e=.returned (.tuple #[])∧u'=.returning∧w'=w:=by
 refine callsD_of_wpS Try.func34 rfl fun c₀ cs hu=>?_
 apply wpS_seq
 apply wpS_region
 simp [wpOpsS,go_sem,recoverD,hu,Try.ntmps34,Exit.thenS]
 refine wpS_cond (t:=false) (by simp [Act.eval,Array.replicate]) ?_
 simp only [Bool.false_eq_true,if_false]
 refine wpS_of_wp (wp_skip ?_)
 cases c₀
 simp_all [bodyPostS,results,Try.results34]
end Go.Proofs.Ytoaijganmfijmaa.Pr
-- shrunk
/-
apply's work in memory, and what is read of lists of texts.
-/
namespace Go.Proofs.Ytoaijganmfijmaa.Pr
open Go.RowKit Go.Proofs.YtoaijganmfijmaaW.PrintWords Go.Proofs.YtoaijganmfijmaaW.PrintLast Go.Proofs.YtoaijganmfijmaaW.PrintMore
structure ABox (w:World) (b:Nat) (v:Value) (done e:Int) (out:List ByteArray) (wr:World):Prop where
 box:wr.heap[b]?=some (.cells #[v,.int .i64 done,.int .i64 e] 46 (0,0))
 row:Kd.R Kd.string 9 wr w.heap.size (fun _=>True) v out
 new_:w.heap.size≤b
 bel:Below w.heap.size w wr
theorem ABox.below {w:World} {b:Nat} {v:Value} {done e:Int} {out:List ByteArray} {wr w1:World} (h:ABox w b v done e out wr) (hb:Below wr.heap.size wr w1):ABox w b v done e out w1 :=
 ⟨blk_below h.box hb,Kd.R_below h.row hb,h.new_,below_then h.bel h.bel.size hb⟩
theorem ABox.drew {w:World} {b:Nat} {v:Value} {done e:Int} {out:List ByteArray} {wr:World} (h:ABox w b v done e out wr):ABox w b v done e out wr.drew:=h.below (below_drew (Below.refl _ _))
theorem ABox.alloc {w:World} {b:Nat} {v:Value} {done e:Int} {out:List ByteArray} {wr:World} (h:ABox w b v done e out wr) (o:Obj):ABox w b v done e out (wr.alloc o):=h.below (below_alloc (Below.refl _ _) o)
theorem ABox.far {w:World} {b:Nat} {v:Value} {done e:Int} {out:List ByteArray} {wr:World} (h:ABox w b v done e out wr):some b≠v.ownBlock:=by
 intro he
 obtain ⟨cells,hc⟩:=Kd.R_typed h.row b he.symm
 rw [h.box] at hc
 injection hc with hc
 injection hc with _ hc
 exact absurd hc (by decide)
theorem ABox.put {w:World} {b:Nat} {v:Value} {done e:Int} {out:List ByteArray} {wr:World} (h:ABox w b v done e out wr) (j:Nat) (u:Value):Kd.R Kd.string 9 (wr.setCell ⟨b,j,none⟩ u) w.heap.size (fun _=>True) v out∧Below w.heap.size w (wr.setCell ⟨b,j,none⟩ u) :=
 ⟨Kd.R_mono (Kd.R_far (p:=⟨b,j,none⟩) (Kd.R_tight rfl h.row) (fun k hk=>fun e_=>h.far (by rw [← hk];exact congrArg some e_.symm)) u) (fun _ _=>trivial),below_set h.bel h.new_⟩
theorem ABox.done_ {w:World} {b:Nat} {v:Value} {done e:Int} {out:List ByteArray} {wr:World} (h:ABox w b v done e out wr) (n:Int):ABox w b v n e out (wr.setCell ⟨b,1,none⟩ (.int .i64 n)) :=
 ⟨blk_put h.box 1 _ rfl,(h.put 1 _).1,h.new_,(h.put 1 _).2⟩
theorem ABox.err {w:World} {b:Nat} {v:Value} {done e:Int} {out:List ByteArray} {wr:World} (h:ABox w b v done e out wr) (n:Int):ABox w b v done n out (wr.setCell ⟨b,2,none⟩ (.int .i64 n)) :=
 ⟨blk_put h.box 2 _ rfl,(h.put 2 _).1,h.new_,(h.put 2 _).2⟩
theorem ABox.step {w:World} {b:Nat} {v v3:Value} {done e:Int} {out out':List ByteArray} {wr w5:World} (h:ABox w b v done e out wr) (hg:wr.grownBy w5 v.ownBlock) (hR:Kd.R Kd.string 9 w5 w.heap.size (fun _=>True) v3 out') (hb:Below w.heap.size w w5) :
  w5.heap[b]?=some (.cells #[v,.int .i64 done,.int .i64 e] 46 (0,0))∧ABox w b v3 done e out' (w5.setCell ⟨b,0,none⟩ v3):=by
 have hbx:=blk_grown h.box hg h.far
 have hne3:∀ k,v3.ownBlock=some k→k≠b:=by
  intro k hk he
  subst he
  obtain ⟨cells,hc⟩:=Kd.R_typed hR k hk
  rw [hbx] at hc
  injection hc with hc
  injection hc with _ hc
  exact absurd hc (by decide)
 exact ⟨hbx,⟨blk_put hbx 0 _ rfl,Kd.R_mono (Kd.R_far (p:=⟨b,0,none⟩) (Kd.R_tight rfl hR) (fun k hk=>hne3 k hk.symm) v3) (fun _ _=>trivial),h.new_,below_set hb h.new_⟩⟩
theorem ABox.side {w:World} {b:Nat} {v:Value} {done e:Int} {out:List ByteArray} {wr w5:World} (h:ABox w b v done e out wr) (hg:wr.grownBy w5 v.ownBlock) {g:Nat} {t:TypeId} {cs:Array Value} (hb:wr.heap[g]?=some (.cells cs t (0,0))) (h1:t≠9) (h2:t≠46) (j:Nat) (u:Value) :
  (w5.setCell ⟨b,j,none⟩ u).heap[g]?=some (.cells cs t (0,0)):=by
 have hne:some g≠v.ownBlock:=by
  intro he
  obtain ⟨cells,hc⟩:=Kd.R_typed h.row g he.symm
  rw [hb] at hc
  injection hc with hc
  injection hc with _ hc
  exact h1 hc
 have hgb:g≠b:=blk_ne hb h.box h2
 rw [Below.heap_setCell w5 ⟨b,j,none⟩ u g hgb]
 exact blk_grown hb hg hne
theorem ABox.side0 {w:World} {b:Nat} {v:Value} {done e:Int} {out:List ByteArray} {wr w5:World} (h:ABox w b v done e out wr) (hg:wr.grownBy w5 v.ownBlock) {g:Nat} {t:TypeId} {cs:Array Value} (hb:wr.heap[g]?=some (.cells cs t (0,0))) (h1:t≠9) :
  w5.heap[g]?=some (.cells cs t (0,0)):=by
 refine blk_grown hb hg (fun he=>?_)
 obtain ⟨cells,hc⟩:=Kd.R_typed h.row g he.symm
 rw [hb] at hc
 injection hc with hc
 injection hc with _ hc
 exact h1 hc
def OneEnd (w:World) (b:Nat) (r:Option (List ByteArray × Nat)) (e:Ending) (w':World):Prop:=match r with
 | some (out,d)=>e=.returned (.tuple #[])∧∃ v,ABox w b v (d:Int) 0 out w'
 | none=>(∃ u pv,e=.panicked [{ v:=.iface u pv,recovered:=false }])∧∃ v d out,ABox w b v d 6 out w'
theorem ginfoStrA:(Try.prog.info? 9).map (fun i=>(i.zero,i.size,i.bytes))=some (some (.string ⟨#[]⟩),1,16):=by kernel_rfl
theorem cutMidA (A:Option Addr) (c:Nat) (xs:List ByteArray) (lo hi:Nat) (h1:lo≤hi) (h2:hi≤xs.length) (hc:xs.length≤c) :
  ∃ A':Option Addr,(∀ W:World,(Instr.slice 22 (.slice A xs.length c) (some (.int .i64 (lo:Int))) (some (.int .i64 (hi:Int))) none).run Try.prog W=.ok (.slice A' ((xs.take hi).drop lo).length (c - lo)) W) ∧
   (∀ w:World,Kd.C Kd.string w A xs.length xs→Kd.C Kd.string w A' ((xs.take hi).drop lo).length ((xs.take hi).drop lo))∧((xs.take hi).drop lo).length≤c - lo:=by
 obtain ⟨i0,hi0,hz⟩:=Option.map_eq_some_iff.1 ginfoStrA
 simp only [Prod.mk.injEq] at hz
 have e:(xs.take hi).drop lo=(xs.drop lo).take (hi - lo):=List.drop_take ..
 rw [e]
 refine ⟨_,fun W=>?_,fun w h=>Kd.C_take (Kd.C_drop (c:=c) h (by omega) hc) (by rw [List.length_drop];omega),by rw [List.length_take,List.length_drop];omega⟩
 have h:=cut_mid (P:=Try.prog) 22 9 .i64 .i64 Try.underlying22 hi0 1 hz.2.1 A xs.length c (lo:Int) (hi:Int) (Int.natCast_nonneg _) (by omega) (by omega) hc W
 rw [Int.toNat_natCast,Int.toNat_natCast] at h
 rw [h,List.length_take,List.length_drop,Nat.min_eq_left (by omega)]
 rfl
theorem at_textA {w:World} {A:Option Addr} {xs:List ByteArray} (h:Kd.C Kd.string w A xs.length xs) (i:Nat) (hi:i<xs.length):∃ ad,A=some ad∧w.cell? (ad.add i)=some (.string xs[i]):=by
 obtain ⟨ad,e,hc⟩:=h.2.2 (by omega)
 obtain ⟨c,_,rfl,h3⟩:=hc i (xs[i]) (List.getElem?_eq_getElem hi)
 have h4:=h3 0 _ rfl
 rw [show Kd.string.sz=1 from rfl,Nat.mul_one,Nat.add_zero] at h4
 exact ⟨ad,e,h4⟩
end Go.Proofs.Ytoaijganmfijmaa.Pr
-- shrunk
