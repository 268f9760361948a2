/-
Several plain texts in one.
-/
import Derived.Test.YtamojbfmphainaaDoorK0
import Derived.Test.YtamojbfmphainaaDoorK4
import Derived.Test.YtamojbfmphainaaDoorK2
import Derived.Outline
import Derived.Test.YtamojbfmphainaaDoorK1
import Derived.Lib.ItoaMem
import Derived.Lib.IndexMore
set_option linter.unusedVariables false
set_option linter.unusedSimpArgs false
-- written by a program of this session's (a turned copy of the kit's printer); Lean checks it
namespace Go.Proofs.YtamojbfmphainaaDoor.Pr
open Go.RowKit Go.Proofs.YtamojbfmphainaaDoorW.PrintWords Go.Proofs.YtamojbfmphainaaDoorW.PrintLast Go.Proofs.YtamojbfmphainaaDoorW.PrintMore
attribute [local go_sem] max2_int min2_int max_two min_two max_three min_three max_four min_four   -- for this text's walks alone

def unified_can.l0:Nat→List ByteArray→Int→Int→Int→Int→Int→Int→List ByteArray→Option (Bool)
 | 0,_,_,_,_,_,_,_,_=>none
 | k+1,x6,x7,x8,x114000,x114001,x114002,x114003,x114004=>if x8<x7 then (if 0≤x8 then (if x8<(x6.length:Int) then ((unified_plain.f (rdOf ByteArray.empty x6 x8)).bind fun t115=>(if t115=true then (unified_can.l0 k x6 x7 (wrap64 (x8+1)) x114000 x114001 x114002 x114003 x114004) else (some false))) else (none)) else (none)) else ((hunk_Right.f k x114000 x114001 x114002 x114003 x114004).bind fun t116=>(if t116=true then ((unified_first.f x114000 x114001).bind fun t117=>((unified_first.f x114002 x114003).bind fun t118=>(some (decide ((mx (mx (mx t117 x114001) t118) x114003)<2147483648))))) else (some false)))
def unified_can.f (k:Nat) (a0_0:Int) (a0_1:Int) (a0_2:Int) (a0_3:Int) (l0_4:List ByteArray):Option (Bool):=unified_can.l0 k l0_4 (l0_4.length:Int) 0 a0_0 a0_1 a0_2 a0_3 l0_4
def unified_can.T7:Bool × List (List Nat × List Nat):=(true,[([],[]),([0],[0]),([1,1],[1]),([2],[2]),([3,2],[2,3]),([2],[2]),([5,2],[2,5]),([4,6,2,2],[2,4,6]),([2],[2]),([8,2],[2,8]),([2],[2]),([10,2],[2,10]),([2],[2]),([12,2],[2,12]),([11,13,7,2],[2,11,13]),([2],[2]),([15,2],[2,15]),([7,9,14,16,2],[2,7,9,14,16]),([17,2],[2,17]),([2,18],[2,18]),([19,14,0,1,2,3,4,5,6,7,8,9,10,11,12,13,14,15,16,17,18,19],[19])])
def unified_can.B7:List Nat:=[0,1,3,7,15,7,39,127,7,263,7,1031,7,4103,15615,7,32775,131071,262143,524287,1048575]
theorem unified_can.tab7:rtab .any (opsOf Tryd.f22 7)=unified_can.T7:=by kernel_rfl
theorem unified_can.bits7:waitsOk unified_can.T7.2 unified_can.B7=true:=by kernel_rfl
set_option maxHeartbeats 8000000 in
set_option maxRecDepth 100000 in
theorem unified_can.calls (k:Nat) (a0_0:Int) (a0_1:Int) (a0_2:Int) (a0_3:Int) (A0_4:Option Addr) (c0_4:Nat) (l0_4:List ByteArray) (r:Bool) (w:World) (hr0_4:Kd.C Kd.string w A0_4 l0_4.length l0_4) (hc0_4:l0_4.length≤c0_4) (h:unified_can.f k a0_0 a0_1 a0_2 a0_3 l0_4=some r) :
  Calls Tryd.prog 22 #[.agg #[.int .i64 a0_0,.int .i64 a0_1,.int .i64 a0_2,.int .i64 a0_3,.slice A0_4 l0_4.length c0_4]] w fun e w'=>e=.returned (.bool r)∧Below w.heap.size w w':=by
 have hu41:=Tryd.underlying41
 have HR0_4:=Aside0.mk hr0_4
 have HC0_4:=Aside0.mk hc0_4
 clear hr0_4 hc0_4
 have HB:=Aside0.mk (Below.refl w.heap.size w)
 have H:(unified_can.l0 k l0_4 (l0_4.length:Int) 0 a0_0 a0_1 a0_2 a0_3 l0_4)=some r:=h
 clear h
 have H':=Aside0.mk H
 clear H
 go_enter Tryd.func22,Tryd.ntmps22
 go_wp2_with (first|((with_reducible refine gate_dst (N:=1) rfl ?_);(try (refine gate_guard (by rfl) ?_;dsimp only));refine box_event ?hg (N:=1) ?hd (cs:=#[.int .i64 a0_0,.int .i64 a0_1,.int .i64 a0_2,.int .i64 a0_3,.slice A0_4 l0_4.length c0_4]) (t:=41) ?hr ?_;(case hd=>rfl);(case hg=>rfl);(case hr=>first|(go_simp;done)|(go_simp;rfl));intro gb113 hg w2 hbox hb;have n0_:=Aside0.mk (below_step (by repeat (first|(with_reducible first|exact HB.out|apply below_alloc|apply pw_below_drewN|apply below_drew1)|exact HB.out)) hb);have n1_:=Aside0.mk (hbox);have n2_:=Aside0.mk ((by rw [hg];exact (below_size (by repeat (first|(with_reducible first|exact HB.out|apply below_alloc|apply pw_below_drewN|apply below_drew1)|exact HB.out))):w.heap.size≤gb113));have n3_:=Aside0.mk ((by rw [hg];exact (below_size (by repeat (first|(with_reducible first|exact HB.out|apply below_alloc|apply pw_below_drewN|apply below_drew1)|exact HB.out))):w.heap.size≤gb113));clear HB;have HB:=n0_;have BK113:=n1_;have GW113:=n2_;have GE113:=n3_;clear n0_ n1_ n2_ n3_;clear hb hbox hg;have hcz3_0:w2.cell? ⟨gb113,0,none⟩=some (.int .i64 a0_0):=(blk_cell BK113.out 0).trans rfl;have hcz3_1:w2.cell? ⟨gb113,1,none⟩=some (.int .i64 a0_1):=(blk_cell BK113.out 1).trans rfl;have hcz3_2:w2.cell? ⟨gb113,2,none⟩=some (.int .i64 a0_2):=(blk_cell BK113.out 2).trans rfl;have hcz3_3:w2.cell? ⟨gb113,3,none⟩=some (.int .i64 a0_3):=(blk_cell BK113.out 3).trans rfl;have hcz3_4:w2.cell? ⟨gb113,4,none⟩=some (.slice A0_4 l0_4.length c0_4):=(blk_cell BK113.out 4).trans rfl;have hfz3_0:=blk_frozen BK113.out 0;have hfz3_1:=blk_frozen BK113.out 1;have hfz3_2:=blk_frozen BK113.out 2;have hfz3_3:=blk_frozen BK113.out 3;have hfz3_4:=blk_frozen BK113.out 4))
 go_loopg [8] k (fun kq v8 w'=>∃ (x8_1:Int),v8=.int .i64 x8_1∧Aside0 (unified_can.l0 kq l0_4 (l0_4.length:Int) x8_1 a0_0 a0_1 a0_2 a0_3 l0_4=some r)∧Aside0 (kq≤k)∧Aside0 (w'.heap[gb113]?=some (.cells #[.int .i64 a0_0,.int .i64 a0_1,.int .i64 a0_2,.int .i64 a0_3,(.slice A0_4 l0_4.length c0_4)] 41 (0,0)))∧Aside0 (Below w.heap.size w w'))
 case atStart=>exact ⟨(0),(by first|rfl|(simp;done)|(simp [*];done)),H',⟨Nat.le_refl _⟩,⟨by (with_reducible repeat (first|refine blk_drewN ?_ _|refine blk_drew ?_|refine blk_alloc ?_ _));exact BK113.out⟩,⟨by repeat (first|(with_reducible first|exact HB.out|apply below_alloc|apply pw_below_drewN|apply below_drew1|refine below_set ?_ GE113.out)|exact HB.out)⟩⟩
 case round =>
  clear H'
  try clear c2
  try clear p2
  try clear hcz3_0
  try clear hcz3_1
  try clear hcz3_2
  try clear hcz3_3
  try clear hcz3_4
  try clear hfz3_0
  try clear hfz3_1
  try clear hfz3_2
  try clear hfz3_3
  try clear hfz3_4
  obtain ⟨x8_1,rfl,HA,HK1,BK113,HB⟩:=hrel
  cases gk with
  | zero=>exact absurd HA.out (by simp [unified_can.l0])
  | succ k1 =>
   have H:=HA.out
   clear HA
   simp only [unified_can.l0] at H
   by_cases c4:x8_1<(l0_4.length:Int)
   ·rw [if_pos c4] at H
    have c4b0:decide (x8_1<(l0_4.length:Int))=true:=decide_eq_true c4
    clear c4
    by_cases c5:0≤x8_1
    ·rw [if_pos c5] at H
     have c5b0:decide (0≤x8_1)=true:=decide_eq_true c5
     clear c5
     by_cases c6:x8_1<(l0_4.length:Int)
     ·rw [if_pos c6] at H
      have c6b0:decide (x8_1<(l0_4.length:Int))=true:=decide_eq_true c6
      clear c6
      replace H:=Option.bind_eq_some_iff.mp H
      obtain ⟨t115,A70,H⟩:=H
      replace H:(if t115=true then (unified_can.l0 k1 l0_4 (l0_4.length:Int) (wrap64 (x8_1+1)) a0_0 a0_1 a0_2 a0_3 l0_4) else (some false))=some r:=H
      have A7:=Aside0.mk A70
      clear A70
      by_cases c8:t115=true
      ·subst c8
       have H1:(unified_can.l0 k1 l0_4 (l0_4.length:Int) (wrap64 (x8_1+1)) a0_0 a0_1 a0_2 a0_3 l0_4)=some r:=by rw [if_pos rfl] at H;exact H
       clear H
       have H:=H1
       clear H1
       have H':=Aside0.mk H
       clear H
       have p114:0≤(x8_1:Int):=of_decide_eq_true (by first|(with_reducible assumption)|assumption)
       have q114:x8_1<(l0_4.length:Int):=of_decide_eq_true (by first|(with_reducible assumption)|assumption)
       obtain ⟨ad114,e114,hx114_0⟩:=Kd.at_string HR0_4.out x8_1 p114 q114
       cases e114
       replace hx114_0:=(HB.out.cell (World.block_lt_of_cell? w _ hx114_0)).trans hx114_0
       replace p114:=eq_true p114
       replace q114:=eq_true q114
       go_wp2_with (first|((with_reducible refine gate_callee (f:=51) rfl ?_);refine goesL_ (some 13) rfl rfl Tryd.func51 (by kernel_rfl) rfl #[.string (rdOf ByteArray.empty l0_4 x8_1)] rfl (by (try simp only [List.map_toArray,List.map_cons,List.map_nil]);first|done|rfl|(simp only [List.length_drop,List.length_take];rfl)) ?_;(with_reducible refine (unified_plain.calls (rdOf ByteArray.empty l0_4 x8_1) true _ A7.out).mono ?_);rintro e w' ⟨rfl,⟨nd,rfl⟩⟩;refine ⟨_,rfl,?_⟩))
       go_roundg k1
       case measure=>have:=HK1.out;omega
       case rel=>exact ⟨(wrap64 (x8_1+1)),(by first|rfl|(simp;done)|(simp [*];done)),H',⟨by have:=HK1.out;omega⟩,⟨by (with_reducible repeat (first|refine blk_drewN ?_ _|refine blk_drew ?_|refine blk_alloc ?_ _));exact BK113.out⟩,⟨by repeat (first|(with_reducible first|exact HB.out|apply below_alloc|apply pw_below_drewN|apply below_drew1|refine below_set ?_ GE113.out)|exact HB.out)⟩⟩
      ·replace c8:=Bool.eq_false_iff.mpr c8
       subst c8
       have H1:(some false)=some r:=by rw [if_neg (show ¬ (false=true) by decide)] at H;exact H
       clear H
       have H:=H1
       clear H1
       obtain rfl:=Option.some.inj H
       have p114:0≤(x8_1:Int):=of_decide_eq_true (by first|(with_reducible assumption)|assumption)
       have q114:x8_1<(l0_4.length:Int):=of_decide_eq_true (by first|(with_reducible assumption)|assumption)
       obtain ⟨ad114,e114,hx114_0⟩:=Kd.at_string HR0_4.out x8_1 p114 q114
       cases e114
       replace hx114_0:=(HB.out.cell (World.block_lt_of_cell? w _ hx114_0)).trans hx114_0
       replace p114:=eq_true p114
       replace q114:=eq_true q114
       go_wp2_with (first|((with_reducible refine gate_callee (f:=51) rfl ?_);refine goesL_ (some 13) rfl rfl Tryd.func51 (by kernel_rfl) rfl #[.string (rdOf ByteArray.empty l0_4 x8_1)] rfl (by (try simp only [List.map_toArray,List.map_cons,List.map_nil]);first|done|rfl|(simp only [List.length_drop,List.length_take];rfl)) ?_;(with_reducible refine (unified_plain.calls (rdOf ByteArray.empty l0_4 x8_1) false _ A7.out).mono ?_);rintro e w' ⟨rfl,⟨nd,rfl⟩⟩;refine ⟨_,rfl,?_⟩))
       go_ret
       exact ⟨by first|rfl|(simp [errW_none,errW_some]<;>rfl)|(simp [*,errW_none,errW_some]<;>rfl),by repeat (first|(with_reducible first|exact HB.out|apply below_alloc|apply pw_below_drewN|apply below_drew1|refine below_set ?_ GE113.out)|exact HB.out)⟩
     ·rw [if_neg c6] at H
      exact absurd H (by simp)
    ·rw [if_neg c5] at H
     exact absurd H (by simp)
   ·rw [if_neg c4] at H
    have c4b0:decide (x8_1<(l0_4.length:Int))=false:=decide_eq_false c4
    clear c4
    replace H:=Option.bind_eq_some_iff.mp H
    obtain ⟨t116,A90,H⟩:=H
    replace H:(if t116=true then ((unified_first.f a0_0 a0_1).bind fun t117=>((unified_first.f a0_2 a0_3).bind fun t118=>(some (decide ((mx (mx (mx t117 a0_1) t118) a0_3)<2147483648))))) else (some false))=some r:=H
    have A9:=Aside0.mk A90
    clear A90
    by_cases c10:t116=true
    ·subst c10
     have H1:((unified_first.f a0_0 a0_1).bind fun t117=>((unified_first.f a0_2 a0_3).bind fun t118=>(some (decide ((mx (mx (mx t117 a0_1) t118) a0_3)<2147483648)))))=some r:=by rw [if_pos rfl] at H;exact H
     clear H
     have H:=H1
     clear H1
     replace H:=Option.bind_eq_some_iff.mp H
     obtain ⟨t117,A110,H⟩:=H
     replace H:((unified_first.f a0_2 a0_3).bind fun t118=>(some (decide ((mx (mx (mx t117 a0_1) t118) a0_3)<2147483648))))=some r:=H
     have A11:=Aside0.mk A110
     clear A110
     replace H:=Option.bind_eq_some_iff.mp H
     obtain ⟨t118,A120,H⟩:=H
     replace H:(some (decide ((mx (mx (mx t117 a0_1) t118) a0_3)<2147483648)))=some r:=H
     have A12:=Aside0.mk A120
     clear A120
     obtain ⟨ji13,hji13⟩:∃ j_:Int,(mx t117 a0_1)=j_:=⟨_,rfl⟩
     replace H:(some (decide ((mx (mx (ji13) t118) a0_3)<2147483648)))=some r:=by first|(rw [hji13] at H;exact H)|(simp only [hji13] at H ⊢;exact H)
     (try rw [hji13] at A9)
     (try rw [hji13] at A11)
     (try rw [hji13] at A12)
     have hji13_:(if t117<a0_1 then a0_1 else t117)=ji13:=hji13
     obtain ⟨ji14,hji14⟩:∃ j_:Int,(mx (ji13) t118)=j_:=⟨_,rfl⟩
     replace H:(some (decide ((mx (ji14) a0_3)<2147483648)))=some r:=by first|(rw [hji14] at H;exact H)|(simp only [hji14] at H ⊢;exact H)
     (try rw [hji14] at A9)
     (try rw [hji14] at A11)
     (try rw [hji14] at A12)
     have hji14_:(if (ji13)<t118 then t118 else (ji13))=ji14:=hji14
     obtain ⟨ji15,hji15⟩:∃ j_:Int,(mx (ji14) a0_3)=j_:=⟨_,rfl⟩
     replace H:(some (decide ((ji15)<2147483648)))=some r:=by first|(rw [hji15] at H;exact H)|(simp only [hji15] at H ⊢;exact H)
     (try rw [hji15] at A9)
     (try rw [hji15] at A11)
     (try rw [hji15] at A12)
     have hji15_:(if (ji14)<a0_3 then a0_3 else (ji14))=ji15:=hji15
     obtain rfl:=Option.some.inj H
     try go_wp2
     have n0_:=Aside0.mk (blk_drew BK113.out)
     have n1_:=Aside0.mk (below_drew1 HB.out)
     clear BK113
     clear HB
     have BK113:=n0_
     have HB:=n1_
     clear n0_ n1_
     refine start_ (n:=21) (S:=fun w'=>w'.cell? ⟨gb113,0,none⟩=some (.int .i64 a0_0)∧w'.cell? ⟨gb113,1,none⟩=some (.int .i64 a0_1)∧w'.cell? ⟨gb113,2,none⟩=some (.int .i64 a0_2)∧w'.cell? ⟨gb113,3,none⟩=some (.int .i64 a0_3)∧w'.cell? ⟨gb113,4,none⟩=some (.slice A0_4 l0_4.length c0_4)) (ds:=[]) #[false,false,false,false,false,false,false,false,false,false,false,false,false,false,false,false,false,false,false,false,false] (by kernel_rfl) rfl rfl ⟨(blk_cell BK113.out 0).trans rfl,(blk_cell BK113.out 1).trans rfl,(blk_cell BK113.out 2).trans rfl,(blk_cell BK113.out 3).trans rfl,(blk_cell BK113.out 4).trans rfl⟩ (fun hHeld=>?_);refine with_tabW unified_can.tab7 unified_can.bits7 (fun HT_ HW_=>?_)
     generalize wr.drew=w16 at BK113 HB hHeld ⊢
     refine take_ (i:=0) (N:=some 16) (v:=?_) (a':=?_) #[true,false,false,false,false,false,false,false,false,false,false,false,false,false,false,false,false,false,false,false,false] rfl rfl (take_ofW HT_.out HW_.out (by kernel_rfl)) (fun _ _ _ h=>h) (Or.inl ⟨by rfl,?_⟩) hHeld ?_ ?_
     rotate_left
     ·rintro w' ⟨s0,s1,s2,s3,s4⟩
      go_simp
      with_reducible rfl
     rotate_left
     ·simp only [Act.put,List.setIfInBounds_toArray,List.set_cons_zero,List.set_cons_succ,i64_w,i32_w]
      rfl
     refine one_ (i:=1) (N:=some 17) #[true,true,false,false,false,false,false,false,false,false,false,false,false,false,false,false,false,false,false,false,false] rfl rfl (one_of HT_.out (by kernel_rfl)) (by decide) (fun K hK=>?_)
     refine goes_ Tryd.func52 (by kernel_rfl) rfl #[.agg #[.int .i64 a0_0,.int .i64 a0_1,.int .i64 a0_2,.int .i64 a0_3,.slice A0_4 l0_4.length c0_4]] (by rfl) rfl rfl (by (try simp only [List.map_toArray,List.map_cons,List.map_nil]);first|done|rfl|(simp only [List.length_drop,List.length_take];rfl)) ?_
     with_reducible refine (hunk_Right.calls k1 a0_0 a0_1 a0_2 a0_3 _ _ l0_4 true _ ?side1 ?side2 A9.out).mono ?_
     (case side1=>repeat (first|exact (Kd.C_below HR0_4.out HB.out)|(with_reducible refine Kd.C_alloc ?_ _)|(with_reducible refine Kd.C_drewN ?_ _)|(with_reducible refine Kd.C_drew ?_)))
     (case side2=>exact HC0_4.out)
     rintro e w17 ⟨rfl,hb⟩
     refine ⟨_,rfl,?_⟩
     have n0_:=Aside0.mk (blk_below (g:=gb113) (o:=.cells #[.int .i64 a0_0,.int .i64 a0_1,.int .i64 a0_2,.int .i64 a0_3,.slice A0_4 l0_4.length c0_4] 41 (0,0)) (by (with_reducible repeat (first|refine blk_drewN ?_ _|refine blk_drew ?_|refine blk_alloc ?_ _));exact BK113.out) hb)
     have n1_:=Aside0.mk (below_step (by repeat (first|(with_reducible first|exact HB.out|apply below_alloc|apply pw_below_drewN|apply below_drew1|refine below_set ?_ GE113.out)|exact HB.out)) hb)
     clear BK113
     clear HB
     have BK113:=n0_
     have HB:=n1_
     clear n0_ n1_
     (try clear hb)
     (try clear hb2)
     (try clear hk)
     (try clear hi)
     refine hK.out _ _ ⟨(blk_cell BK113.out 0).trans rfl,(blk_cell BK113.out 1).trans rfl,(blk_cell BK113.out 2).trans rfl,(blk_cell BK113.out 3).trans rfl,(blk_cell BK113.out 4).trans rfl⟩ (fun hHeld=>?_)
     clear hK K
     refine norm_ (a':=?_) ?_ ?_
     rotate_left
     ·show Act.put _ (some 17) _=_
      simp only [Act.put,List.setIfInBounds_toArray,List.set_cons_zero,List.set_cons_succ,i64_w,i32_w]
      rfl
     refine pure_ (i:=2) (N:=some 18) (v:=?_) (a':=?_) #[true,true,true,false,false,false,false,false,false,false,false,false,false,false,false,false,false,false,false,false,false] rfl rfl (any_of HT_.out (by kernel_rfl)) (fun _ _ _ h=>h) (Or.inl ⟨by rfl,?_⟩) ?_ ?_
     rotate_left
     ·intro w'
      go_simp
      with_reducible rfl
     rotate_left
     ·simp only [Act.put,List.setIfInBounds_toArray,List.set_cons_zero,List.set_cons_succ,i64_w,i32_w]
      rfl
     refine pure_ (i:=3) (N:=some 19) (v:=?_) (a':=?_) #[true,true,true,true,false,false,false,false,false,false,false,false,false,false,false,false,false,false,false,false,false] rfl rfl (any_of HT_.out (by kernel_rfl)) (fun _ _ _ h=>h) (Or.inl ⟨by rfl,?_⟩) ?_ ?_
     rotate_left
     ·intro w'
      go_simp
      with_reducible rfl
     rotate_left
     ·simp only [Act.put,List.setIfInBounds_toArray,List.set_cons_zero,List.set_cons_succ,i64_w,i32_w]
      rfl
     refine pure_ (i:=5) (N:=some 21) (v:=?_) (a':=?_) #[true,true,true,true,false,true,false,false,false,false,false,false,false,false,false,false,false,false,false,false,false] rfl rfl (any_of HT_.out (by kernel_rfl)) (fun _ _ _ h=>h) (Or.inl ⟨by rfl,?_⟩) ?_ ?_
     rotate_left
     ·intro w'
      go_simp
      with_reducible rfl
     rotate_left
     ·simp only [Act.put,List.setIfInBounds_toArray,List.set_cons_zero,List.set_cons_succ,i64_w,i32_w]
      rfl
     refine pure_ (i:=8) (N:=some 24) (v:=?_) (a':=?_) #[true,true,true,true,false,true,false,false,true,false,false,false,false,false,false,false,false,false,false,false,false] rfl rfl (any_of HT_.out (by kernel_rfl)) (fun _ _ _ h=>h) (Or.inl ⟨by rfl,?_⟩) ?_ ?_
     rotate_left
     ·intro w'
      go_simp
      with_reducible rfl
     rotate_left
     ·simp only [Act.put,List.setIfInBounds_toArray,List.set_cons_zero,List.set_cons_succ,i64_w,i32_w]
      rfl
     refine pure_ (i:=10) (N:=some 26) (v:=?_) (a':=?_) #[true,true,true,true,false,true,false,false,true,false,true,false,false,false,false,false,false,false,false,false,false] rfl rfl (any_of HT_.out (by kernel_rfl)) (fun _ _ _ h=>h) (Or.inl ⟨by rfl,?_⟩) ?_ ?_
     rotate_left
     ·intro w'
      go_simp
      with_reducible rfl
     rotate_left
     ·simp only [Act.put,List.setIfInBounds_toArray,List.set_cons_zero,List.set_cons_succ,i64_w,i32_w]
      rfl
     refine pure_ (i:=12) (N:=some 28) (v:=?_) (a':=?_) #[true,true,true,true,false,true,false,false,true,false,true,false,true,false,false,false,false,false,false,false,false] rfl rfl (any_of HT_.out (by kernel_rfl)) (fun _ _ _ h=>h) (Or.inl ⟨by rfl,?_⟩) ?_ ?_
     rotate_left
     ·intro w'
      go_simp
      with_reducible rfl
     rotate_left
     ·simp only [Act.put,List.setIfInBounds_toArray,List.set_cons_zero,List.set_cons_succ,i64_w,i32_w]
      rfl
     refine pure_ (i:=15) (N:=some 31) (v:=?_) (a':=?_) #[true,true,true,true,false,true,false,false,true,false,true,false,true,false,false,true,false,false,false,false,false] rfl rfl (any_of HT_.out (by kernel_rfl)) (fun _ _ _ h=>h) (Or.inl ⟨by rfl,?_⟩) ?_ ?_
     rotate_left
     ·intro w'
      go_simp
      with_reducible rfl
     rotate_left
     ·simp only [Act.put,List.setIfInBounds_toArray,List.set_cons_zero,List.set_cons_succ,i64_w,i32_w]
      rfl
     refine take_ (i:=4) (N:=some 20) (v:=?_) (a':=?_) #[true,true,true,true,true,true,false,false,true,false,true,false,true,false,false,true,false,false,false,false,false] rfl rfl (take_ofW HT_.out HW_.out (by kernel_rfl)) (fun _ _ _ h=>h) (Or.inl ⟨by rfl,?_⟩) hHeld ?_ ?_
     rotate_left
     ·rintro w' ⟨s0,s1,s2,s3,s4⟩
      go_simp
      with_reducible rfl
     rotate_left
     ·simp only [Act.put,List.setIfInBounds_toArray,List.set_cons_zero,List.set_cons_succ,i64_w,i32_w]
      rfl
     refine take_ (i:=6) (N:=some 22) (v:=?_) (a':=?_) #[true,true,true,true,true,true,true,false,true,false,true,false,true,false,false,true,false,false,false,false,false] rfl rfl (take_ofW HT_.out HW_.out (by kernel_rfl)) (fun _ _ _ h=>h) (Or.inl ⟨by rfl,?_⟩) hHeld ?_ ?_
     rotate_left
     ·rintro w' ⟨s0,s1,s2,s3,s4⟩
      go_simp
      with_reducible rfl
     rotate_left
     ·simp only [Act.put,List.setIfInBounds_toArray,List.set_cons_zero,List.set_cons_succ,i64_w,i32_w]
      rfl
     refine take_ (i:=9) (N:=some 25) (v:=?_) (a':=?_) #[true,true,true,true,true,true,true,false,true,true,true,false,true,false,false,true,false,false,false,false,false] rfl rfl (take_ofW HT_.out HW_.out (by kernel_rfl)) (fun _ _ _ h=>h) (Or.inl ⟨by rfl,?_⟩) hHeld ?_ ?_
     rotate_left
     ·rintro w' ⟨s0,s1,s2,s3,s4⟩
      go_simp
      with_reducible rfl
     rotate_left
     ·simp only [Act.put,List.setIfInBounds_toArray,List.set_cons_zero,List.set_cons_succ,i64_w,i32_w]
      rfl
     refine take_ (i:=11) (N:=some 27) (v:=?_) (a':=?_) #[true,true,true,true,true,true,true,false,true,true,true,true,true,false,false,true,false,false,false,false,false] rfl rfl (take_ofW HT_.out HW_.out (by kernel_rfl)) (fun _ _ _ h=>h) (Or.inl ⟨by rfl,?_⟩) hHeld ?_ ?_
     rotate_left
     ·rintro w' ⟨s0,s1,s2,s3,s4⟩
      go_simp
      with_reducible rfl
     rotate_left
     ·simp only [Act.put,List.setIfInBounds_toArray,List.set_cons_zero,List.set_cons_succ,i64_w,i32_w]
      rfl
     refine take_ (i:=13) (N:=some 29) (v:=?_) (a':=?_) #[true,true,true,true,true,true,true,false,true,true,true,true,true,true,false,true,false,false,false,false,false] rfl rfl (take_ofW HT_.out HW_.out (by kernel_rfl)) (fun _ _ _ h=>h) (Or.inl ⟨by rfl,?_⟩) hHeld ?_ ?_
     rotate_left
     ·rintro w' ⟨s0,s1,s2,s3,s4⟩
      go_simp
      with_reducible rfl
     rotate_left
     ·simp only [Act.put,List.setIfInBounds_toArray,List.set_cons_zero,List.set_cons_succ,i64_w,i32_w]
      rfl
     refine take_ (i:=16) (N:=some 32) (v:=?_) (a':=?_) #[true,true,true,true,true,true,true,false,true,true,true,true,true,true,false,true,true,false,false,false,false] rfl rfl (take_ofW HT_.out HW_.out (by kernel_rfl)) (fun _ _ _ h=>h) (Or.inl ⟨by rfl,?_⟩) hHeld ?_ ?_
     rotate_left
     ·rintro w' ⟨s0,s1,s2,s3,s4⟩
      go_simp
      with_reducible rfl
     rotate_left
     ·simp only [Act.put,List.setIfInBounds_toArray,List.set_cons_zero,List.set_cons_succ,i64_w,i32_w]
      rfl
     refine one_ (i:=7) (N:=some 23) #[true,true,true,true,true,true,true,true,true,true,true,true,true,true,false,true,true,false,false,false,false] rfl rfl (one_of HT_.out (by kernel_rfl)) (by decide) (fun K hK=>?_)
     refine goes_ Tryd.func53 (by kernel_rfl) rfl #[.int .i64 a0_0,.int .i64 a0_1] (by rfl) rfl rfl (by (try simp only [List.map_toArray,List.map_cons,List.map_nil]);first|done|rfl|(simp only [List.length_drop,List.length_take];rfl)) ?_
     with_reducible refine (unified_first.calls a0_0 a0_1 t117 _ A11.out).mono ?_
     rintro e w' ⟨rfl,⟨nd,rfl⟩⟩
     refine ⟨_,rfl,?_⟩
     refine hK.out _ _ ⟨(blk_cell BK113.out 0).trans rfl,(blk_cell BK113.out 1).trans rfl,(blk_cell BK113.out 2).trans rfl,(blk_cell BK113.out 3).trans rfl,(blk_cell BK113.out 4).trans rfl⟩ (fun hHeld=>?_)
     clear hK K
     refine norm_ (a':=?_) ?_ ?_
     rotate_left
     ·show Act.put _ (some 23) _=_
      simp only [Act.put,List.setIfInBounds_toArray,List.set_cons_zero,List.set_cons_succ,i64_w,i32_w]
      rfl
     refine one_ (i:=14) (N:=some 30) #[true,true,true,true,true,true,true,true,true,true,true,true,true,true,true,true,true,false,false,false,false] rfl rfl (one_of HT_.out (by kernel_rfl)) (by decide) (fun K hK=>?_)
     refine goes_ Tryd.func53 (by kernel_rfl) rfl #[.int .i64 a0_2,.int .i64 a0_3] (by rfl) rfl rfl (by (try simp only [List.map_toArray,List.map_cons,List.map_nil]);first|done|rfl|(simp only [List.length_drop,List.length_take];rfl)) ?_
     with_reducible refine (unified_first.calls a0_2 a0_3 t118 _ A12.out).mono ?_
     rintro e w' ⟨rfl,⟨nd,rfl⟩⟩
     refine ⟨_,rfl,?_⟩
     refine hK.out _ _ ⟨(blk_cell BK113.out 0).trans rfl,(blk_cell BK113.out 1).trans rfl,(blk_cell BK113.out 2).trans rfl,(blk_cell BK113.out 3).trans rfl,(blk_cell BK113.out 4).trans rfl⟩ (fun hHeld=>?_)
     clear hK K
     refine norm_ (a':=?_) ?_ ?_
     rotate_left
     ·show Act.put _ (some 30) _=_
      simp only [Act.put,List.setIfInBounds_toArray,List.set_cons_zero,List.set_cons_succ,i64_w,i32_w]
      rfl
     refine pure_ (i:=17) (N:=some 33) (v:=?_) (a':=?_) #[true,true,true,true,true,true,true,true,true,true,true,true,true,true,true,true,true,true,false,false,false] rfl rfl (any_of HT_.out (by kernel_rfl)) (fun _ _ _ h=>h) (Or.inl ⟨by rfl,?_⟩) ?_ ?_
     rotate_left
     ·intro w'
      go_simp
      with_reducible rfl
     rotate_left
     ·simp only [Act.put,List.setIfInBounds_toArray,List.set_cons_zero,List.set_cons_succ,i64_w,i32_w]
      rfl
     refine pure_ (i:=18) (N:=some 34) (v:=?_) (a':=?_) #[true,true,true,true,true,true,true,true,true,true,true,true,true,true,true,true,true,true,true,false,false] rfl rfl (any_of HT_.out (by kernel_rfl)) (fun _ _ _ h=>h) (Or.inl ⟨by rfl,?_⟩) ?_ ?_
     rotate_left
     ·intro w'
      go_simp
      with_reducible rfl
     rotate_left
     ·simp only [Act.put,List.setIfInBounds_toArray,List.set_cons_zero,List.set_cons_succ,i64_w,i32_w]
      rfl
     refine pure_ (i:=19) (N:=some 35) (v:=?_) (a':=?_) #[true,true,true,true,true,true,true,true,true,true,true,true,true,true,true,true,true,true,true,true,false] rfl rfl (any_of HT_.out (by kernel_rfl)) (fun _ _ _ h=>h) (Or.inl ⟨by rfl,?_⟩) ?_ ?_
     rotate_left
     ·intro w'
      go_simp
      with_reducible rfl
     rotate_left
     ·simp only [Act.put,List.setIfInBounds_toArray,List.set_cons_zero,List.set_cons_succ,i64_w,i32_w]
      rfl
     refine pure_ (i:=20) (N:=some 2) (v:=?_) (a':=?_) #[true,true,true,true,true,true,true,true,true,true,true,true,true,true,true,true,true,true,true,true,true] rfl rfl (any_of HT_.out (by kernel_rfl)) (fun _ _ _ h=>h) (Or.inl ⟨by rfl,?_⟩) ?_ ?_
     rotate_left
     ·intro w'
      go_simp
      with_reducible rfl
     rotate_left
     ·simp only [Act.put,List.setIfInBounds_toArray,List.set_cons_zero,List.set_cons_succ,i64_w,i32_w]
      rfl
     refine done_ (done_of HT_.out (by kernel_rfl)) ?_
     try go_wp2
     go_ret
     exact ⟨by first|rfl|(simp [errW_none,errW_some]<;>rfl)|(simp only [← hji13,← hji14,← hji15];first|rfl|(simp [errW_none,errW_some]<;>rfl))|(simp [*,errW_none,errW_some]<;>rfl),by repeat (first|(with_reducible first|exact HB.out|apply below_alloc|apply pw_below_drewN|apply below_drew1|refine below_set ?_ GE113.out)|exact HB.out)⟩
    ·replace c10:=Bool.eq_false_iff.mpr c10
     subst c10
     have H1:(some false)=some r:=by rw [if_neg (show ¬ (false=true) by decide)] at H;exact H
     clear H
     have H:=H1
     clear H1
     obtain rfl:=Option.some.inj H
     try go_wp2
     have n0_:=Aside0.mk (blk_drew BK113.out)
     have n1_:=Aside0.mk (below_drew1 HB.out)
     clear BK113
     clear HB
     have BK113:=n0_
     have HB:=n1_
     clear n0_ n1_
     refine start_ (n:=21) (S:=fun w'=>w'.cell? ⟨gb113,0,none⟩=some (.int .i64 a0_0)∧w'.cell? ⟨gb113,1,none⟩=some (.int .i64 a0_1)∧w'.cell? ⟨gb113,2,none⟩=some (.int .i64 a0_2)∧w'.cell? ⟨gb113,3,none⟩=some (.int .i64 a0_3)∧w'.cell? ⟨gb113,4,none⟩=some (.slice A0_4 l0_4.length c0_4)) (ds:=[]) #[false,false,false,false,false,false,false,false,false,false,false,false,false,false,false,false,false,false,false,false,false] (by kernel_rfl) rfl rfl ⟨(blk_cell BK113.out 0).trans rfl,(blk_cell BK113.out 1).trans rfl,(blk_cell BK113.out 2).trans rfl,(blk_cell BK113.out 3).trans rfl,(blk_cell BK113.out 4).trans rfl⟩ (fun hHeld=>?_);refine with_tabW unified_can.tab7 unified_can.bits7 (fun HT_ HW_=>?_)
     generalize wr.drew=w18 at BK113 HB hHeld ⊢
     refine take_ (i:=0) (N:=some 16) (v:=?_) (a':=?_) #[true,false,false,false,false,false,false,false,false,false,false,false,false,false,false,false,false,false,false,false,false] rfl rfl (take_ofW HT_.out HW_.out (by kernel_rfl)) (fun _ _ _ h=>h) (Or.inl ⟨by rfl,?_⟩) hHeld ?_ ?_
     rotate_left
     ·rintro w' ⟨s0,s1,s2,s3,s4⟩
      go_simp
      with_reducible rfl
     rotate_left
     ·simp only [Act.put,List.setIfInBounds_toArray,List.set_cons_zero,List.set_cons_succ,i64_w,i32_w]
      rfl
     refine one_ (i:=1) (N:=some 17) #[true,true,false,false,false,false,false,false,false,false,false,false,false,false,false,false,false,false,false,false,false] rfl rfl (one_of HT_.out (by kernel_rfl)) (by decide) (fun K hK=>?_)
     refine goes_ Tryd.func52 (by kernel_rfl) rfl #[.agg #[.int .i64 a0_0,.int .i64 a0_1,.int .i64 a0_2,.int .i64 a0_3,.slice A0_4 l0_4.length c0_4]] (by rfl) rfl rfl (by (try simp only [List.map_toArray,List.map_cons,List.map_nil]);first|done|rfl|(simp only [List.length_drop,List.length_take];rfl)) ?_
     with_reducible refine (hunk_Right.calls k1 a0_0 a0_1 a0_2 a0_3 _ _ l0_4 false _ ?side1 ?side2 A9.out).mono ?_
     (case side1=>repeat (first|exact (Kd.C_below HR0_4.out HB.out)|(with_reducible refine Kd.C_alloc ?_ _)|(with_reducible refine Kd.C_drewN ?_ _)|(with_reducible refine Kd.C_drew ?_)))
     (case side2=>exact HC0_4.out)
     rintro e w19 ⟨rfl,hb⟩
     refine ⟨_,rfl,?_⟩
     have n0_:=Aside0.mk (blk_below (g:=gb113) (o:=.cells #[.int .i64 a0_0,.int .i64 a0_1,.int .i64 a0_2,.int .i64 a0_3,.slice A0_4 l0_4.length c0_4] 41 (0,0)) (by (with_reducible repeat (first|refine blk_drewN ?_ _|refine blk_drew ?_|refine blk_alloc ?_ _));exact BK113.out) hb)
     have n1_:=Aside0.mk (below_step (by repeat (first|(with_reducible first|exact HB.out|apply below_alloc|apply pw_below_drewN|apply below_drew1|refine below_set ?_ GE113.out)|exact HB.out)) hb)
     clear BK113
     clear HB
     have BK113:=n0_
     have HB:=n1_
     clear n0_ n1_
     (try clear hb)
     (try clear hb2)
     (try clear hk)
     (try clear hi)
     refine hK.out _ _ ⟨(blk_cell BK113.out 0).trans rfl,(blk_cell BK113.out 1).trans rfl,(blk_cell BK113.out 2).trans rfl,(blk_cell BK113.out 3).trans rfl,(blk_cell BK113.out 4).trans rfl⟩ (fun hHeld=>?_)
     clear hK K
     refine norm_ (a':=?_) ?_ ?_
     rotate_left
     ·show Act.put _ (some 17) _=_
      simp only [Act.put,List.setIfInBounds_toArray,List.set_cons_zero,List.set_cons_succ,i64_w,i32_w]
      rfl
     refine pure_ (i:=2) (N:=some 18) (v:=?_) (a':=?_) #[true,true,true,false,false,false,false,false,false,false,false,false,false,false,false,false,false,false,false,false,false] rfl rfl (any_of HT_.out (by kernel_rfl)) (fun _ _ _ h=>h) (Or.inl ⟨by rfl,?_⟩) ?_ ?_
     rotate_left
     ·intro w'
      go_simp
      with_reducible rfl
     rotate_left
     ·simp only [Act.put,List.setIfInBounds_toArray,List.set_cons_zero,List.set_cons_succ,i64_w,i32_w]
      rfl
     refine pure_ (i:=3) (N:=some 19) (v:=undef) (a':=?_) #[true,true,true,true,false,false,false,false,false,false,false,false,false,false,false,false,false,false,false,false,false] rfl rfl (any_of HT_.out (by kernel_rfl)) (fun _ _ _ h=>h) (Or.inr ⟨by rfl,rfl⟩) ?_ ?_
     rotate_left
     ·simp only [Act.put,List.setIfInBounds_toArray,List.set_cons_zero,List.set_cons_succ,i64_w,i32_w]
      rfl
     refine pure_ (i:=4) (N:=some 20) (v:=undef) (a':=?_) #[true,true,true,true,true,false,false,false,false,false,false,false,false,false,false,false,false,false,false,false,false] rfl rfl (any_of HT_.out (by kernel_rfl)) (fun _ _ _ h=>h) (Or.inr ⟨by rfl,rfl⟩) ?_ ?_
     rotate_left
     ·simp only [Act.put,List.setIfInBounds_toArray,List.set_cons_zero,List.set_cons_succ,i64_w,i32_w]
      rfl
     refine pure_ (i:=5) (N:=some 21) (v:=undef) (a':=?_) #[true,true,true,true,true,true,false,false,false,false,false,false,false,false,false,false,false,false,false,false,false] rfl rfl (any_of HT_.out (by kernel_rfl)) (fun _ _ _ h=>h) (Or.inr ⟨by rfl,rfl⟩) ?_ ?_
     rotate_left
     ·simp only [Act.put,List.setIfInBounds_toArray,List.set_cons_zero,List.set_cons_succ,i64_w,i32_w]
      rfl
     refine pure_ (i:=6) (N:=some 22) (v:=undef) (a':=?_) #[true,true,true,true,true,true,true,false,false,false,false,false,false,false,false,false,false,false,false,false,false] rfl rfl (any_of HT_.out (by kernel_rfl)) (fun _ _ _ h=>h) (Or.inr ⟨by rfl,rfl⟩) ?_ ?_
     rotate_left
     ·simp only [Act.put,List.setIfInBounds_toArray,List.set_cons_zero,List.set_cons_succ,i64_w,i32_w]
      rfl
     refine pure_ (i:=7) (N:=some 23) (v:=undef) (a':=?_) #[true,true,true,true,true,true,true,true,false,false,false,false,false,false,false,false,false,false,false,false,false] rfl rfl (any_of HT_.out (by kernel_rfl)) (fun _ _ _ h=>h) (Or.inr ⟨by rfl,rfl⟩) ?_ ?_
     rotate_left
     ·simp only [Act.put,List.setIfInBounds_toArray,List.set_cons_zero,List.set_cons_succ,i64_w,i32_w]
      rfl
     refine pure_ (i:=8) (N:=some 24) (v:=undef) (a':=?_) #[true,true,true,true,true,true,true,true,true,false,false,false,false,false,false,false,false,false,false,false,false] rfl rfl (any_of HT_.out (by kernel_rfl)) (fun _ _ _ h=>h) (Or.inr ⟨by rfl,rfl⟩) ?_ ?_
     rotate_left
     ·simp only [Act.put,List.setIfInBounds_toArray,List.set_cons_zero,List.set_cons_succ,i64_w,i32_w]
      rfl
     refine pure_ (i:=9) (N:=some 25) (v:=undef) (a':=?_) #[true,true,true,true,true,true,true,true,true,true,false,false,false,false,false,false,false,false,false,false,false] rfl rfl (any_of HT_.out (by kernel_rfl)) (fun _ _ _ h=>h) (Or.inr ⟨by rfl,rfl⟩) ?_ ?_
     rotate_left
     ·simp only [Act.put,List.setIfInBounds_toArray,List.set_cons_zero,List.set_cons_succ,i64_w,i32_w]
      rfl
     refine pure_ (i:=10) (N:=some 26) (v:=undef) (a':=?_) #[true,true,true,true,true,true,true,true,true,true,true,false,false,false,false,false,false,false,false,false,false] rfl rfl (any_of HT_.out (by kernel_rfl)) (fun _ _ _ h=>h) (Or.inr ⟨by rfl,rfl⟩) ?_ ?_
     rotate_left
     ·simp only [Act.put,List.setIfInBounds_toArray,List.set_cons_zero,List.set_cons_succ,i64_w,i32_w]
      rfl
     refine pure_ (i:=11) (N:=some 27) (v:=undef) (a':=?_) #[true,true,true,true,true,true,true,true,true,true,true,true,false,false,false,false,false,false,false,false,false] rfl rfl (any_of HT_.out (by kernel_rfl)) (fun _ _ _ h=>h) (Or.inr ⟨by rfl,rfl⟩) ?_ ?_
     rotate_left
     ·simp only [Act.put,List.setIfInBounds_toArray,List.set_cons_zero,List.set_cons_succ,i64_w,i32_w]
      rfl
     refine pure_ (i:=12) (N:=some 28) (v:=undef) (a':=?_) #[true,true,true,true,true,true,true,true,true,true,true,true,true,false,false,false,false,false,false,false,false] rfl rfl (any_of HT_.out (by kernel_rfl)) (fun _ _ _ h=>h) (Or.inr ⟨by rfl,rfl⟩) ?_ ?_
     rotate_left
     ·simp only [Act.put,List.setIfInBounds_toArray,List.set_cons_zero,List.set_cons_succ,i64_w,i32_w]
      rfl
     refine pure_ (i:=13) (N:=some 29) (v:=undef) (a':=?_) #[true,true,true,true,true,true,true,true,true,true,true,true,true,true,false,false,false,false,false,false,false] rfl rfl (any_of HT_.out (by kernel_rfl)) (fun _ _ _ h=>h) (Or.inr ⟨by rfl,rfl⟩) ?_ ?_
     rotate_left
     ·simp only [Act.put,List.setIfInBounds_toArray,List.set_cons_zero,List.set_cons_succ,i64_w,i32_w]
      rfl
     refine pure_ (i:=14) (N:=some 30) (v:=undef) (a':=?_) #[true,true,true,true,true,true,true,true,true,true,true,true,true,true,true,false,false,false,false,false,false] rfl rfl (any_of HT_.out (by kernel_rfl)) (fun _ _ _ h=>h) (Or.inr ⟨by rfl,rfl⟩) ?_ ?_
     rotate_left
     ·simp only [Act.put,List.setIfInBounds_toArray,List.set_cons_zero,List.set_cons_succ,i64_w,i32_w]
      rfl
     refine pure_ (i:=15) (N:=some 31) (v:=undef) (a':=?_) #[true,true,true,true,true,true,true,true,true,true,true,true,true,true,true,true,false,false,false,false,false] rfl rfl (any_of HT_.out (by kernel_rfl)) (fun _ _ _ h=>h) (Or.inr ⟨by rfl,rfl⟩) ?_ ?_
     rotate_left
     ·simp only [Act.put,List.setIfInBounds_toArray,List.set_cons_zero,List.set_cons_succ,i64_w,i32_w]
      rfl
     refine pure_ (i:=16) (N:=some 32) (v:=undef) (a':=?_) #[true,true,true,true,true,true,true,true,true,true,true,true,true,true,true,true,true,false,false,false,false] rfl rfl (any_of HT_.out (by kernel_rfl)) (fun _ _ _ h=>h) (Or.inr ⟨by rfl,rfl⟩) ?_ ?_
     rotate_left
     ·simp only [Act.put,List.setIfInBounds_toArray,List.set_cons_zero,List.set_cons_succ,i64_w,i32_w]
      rfl
     refine pure_ (i:=17) (N:=some 33) (v:=undef) (a':=?_) #[true,true,true,true,true,true,true,true,true,true,true,true,true,true,true,true,true,true,false,false,false] rfl rfl (any_of HT_.out (by kernel_rfl)) (fun _ _ _ h=>h) (Or.inr ⟨by rfl,rfl⟩) ?_ ?_
     rotate_left
     ·simp only [Act.put,List.setIfInBounds_toArray,List.set_cons_zero,List.set_cons_succ,i64_w,i32_w]
      rfl
     refine pure_ (i:=18) (N:=some 34) (v:=undef) (a':=?_) #[true,true,true,true,true,true,true,true,true,true,true,true,true,true,true,true,true,true,true,false,false] rfl rfl (any_of HT_.out (by kernel_rfl)) (fun _ _ _ h=>h) (Or.inr ⟨by rfl,rfl⟩) ?_ ?_
     rotate_left
     ·simp only [Act.put,List.setIfInBounds_toArray,List.set_cons_zero,List.set_cons_succ,i64_w,i32_w]
      rfl
     refine pure_ (i:=19) (N:=some 35) (v:=?_) (a':=?_) #[true,true,true,true,true,true,true,true,true,true,true,true,true,true,true,true,true,true,true,true,false] rfl rfl (any_of HT_.out (by kernel_rfl)) (fun _ _ _ h=>h) (Or.inl ⟨by rfl,?_⟩) ?_ ?_
     rotate_left
     ·intro w'
      go_simp
      with_reducible rfl
     rotate_left
     ·simp only [Act.put,List.setIfInBounds_toArray,List.set_cons_zero,List.set_cons_succ,i64_w,i32_w]
      rfl
     refine pure_ (i:=20) (N:=some 2) (v:=?_) (a':=?_) #[true,true,true,true,true,true,true,true,true,true,true,true,true,true,true,true,true,true,true,true,true] rfl rfl (any_of HT_.out (by kernel_rfl)) (fun _ _ _ h=>h) (Or.inl ⟨by rfl,?_⟩) ?_ ?_
     rotate_left
     ·intro w'
      go_simp
      with_reducible rfl
     rotate_left
     ·simp only [Act.put,List.setIfInBounds_toArray,List.set_cons_zero,List.set_cons_succ,i64_w,i32_w]
      rfl
     refine done_ (done_of HT_.out (by kernel_rfl)) ?_
     try go_wp2
     go_ret
     exact ⟨by first|rfl|(simp [errW_none,errW_some]<;>rfl)|(simp [*,errW_none,errW_some]<;>rfl),by repeat (first|(with_reducible first|exact HB.out|apply below_alloc|apply pw_below_drewN|apply below_drew1|refine below_set ?_ GE113.out)|exact HB.out)⟩




end Go.Proofs.YtamojbfmphainaaDoor.Pr
-- shrunk
/-
unified.Print.
-/
namespace Go.Proofs.YtamojbfmphainaaDoor.Pr
open Go.RowKit Go.Proofs.YtamojbfmphainaaDoorW.PrintWords Go.Proofs.YtamojbfmphainaaDoorW.PrintLast Go.Proofs.YtamojbfmphainaaDoorW.PrintMore
theorem fromB_size {a b:Int} (h0:0≤a) (h1:a≤2147483648) (h2:0≤b) (h3:b≤2147483648):(fromB a b).size≤50:=by
 have e1:(itoaB (firstI a b)).size≤21:=itoaB_size _ (by rw [firstI];split<;>omega) (by rw [firstI];split<;>omega)
 have e2:(itoaB b).size≤21:=itoaB_size _ (by omega) (by omega)
 rw [fromB,ByteArray.size_append,ByteArray.size_append]
 show (itoaB (firstI a b)).size+1+(itoaB b).size≤50
 omega
def headOf (x:S41):ByteArray:=(⟨#[64,64,32,45]⟩:ByteArray)++fromB x.f0 x.f1++(⟨#[32,43]⟩:ByteArray)++fromB x.f2 x.f3++(⟨#[32,64,64]⟩:ByteArray)++(⟨#[10]⟩:ByteArray)
def tailB:ByteArray:=⟨#[10,92,32,78,111,32,110,101,119,108,105,110,101,32,97,116,32,101,110,100,32,111,102,32,102,105,108,101,10]⟩
def lineOf (s:ByteArray):ByteArray:=if closedL s.data.toList=true then s else s++tailB
def bodyOf:List ByteArray→ByteArray→ByteArray
 | [],out=>out
 | s :: r,out=>bodyOf r (out++lineOf s)
def printL (can:S41→Bool):List S41→ByteArray→ByteArray
 | [],out=>out
 | x :: r,out=>if can x=true then printL can r (bodyOf x.f4 (out++headOf x)) else ⟨#[]⟩
theorem bld_below {T e:TypeId} {B b:Nat} {bs:List Value} {w w':World} (h:Lib.IsBuilderF T e B b bs w) (hb:Below w.heap.size w w'):Lib.IsBuilderF T e B b bs w':=by
 have key:∀ p,Lib.BuilderAtF T e B b p bs w→Lib.BuilderAtF T e B b p bs w':=by
  rintro p ⟨hB,v,hbk,⟨h1,h2⟩,hne⟩
  refine ⟨hB,v,blk_below hbk hb,⟨h1,?_⟩,hne⟩
  rcases h2 with h2|⟨g,cap,cur,fz,hv,hbg,hg,r⟩
  ·exact .inl h2
  ·exact .inr ⟨g,cap,cur,fz,hv,hbg,(hb.block g (Array.getElem?_eq_some_iff.1 hg).1).trans hg,r⟩
 exact h.imp (key _) (key _)
structure PBox (w:World) (b:Nat) (out:ByteArray) (wr:World):Prop where
 bld:Lib.IsBuilderF 47 5 w.heap.size b (Lib.byteCells out.data.toList) wr
 bel:Below w.heap.size w wr
theorem PBox.below {w:World} {b:Nat} {out:ByteArray} {wr w1:World} (h:PBox w b out wr) (hb:Below wr.heap.size wr w1):PBox w b out w1:=⟨bld_below h.bld hb,below_then h.bel h.bel.size hb⟩
theorem PBox.blk {w:World} {b:Nat} {out:ByteArray} {wr:World} (h:PBox w b out wr):∃ cs,wr.heap[b]?=some (.cells cs 47 (0,0)):=by
 rcases h.bld with ⟨_,v,h1,_⟩|⟨_,v,h1,_⟩
 ·exact ⟨_,h1⟩
 ·exact ⟨_,h1⟩
theorem pwrite (w:World) (b:Nat) (out s:ByteArray) (wr:World) (h:PBox w b out wr) (hs:out.size+s.size≤140737488355328) :
  Calls Tryd.prog 23 #[.pointer (some ⟨b,0,none⟩),.string s] wr fun e w'=>e=.returned (.tuple #[.int .i64 s.size,.nilIface])∧PBox w b (out++s) w'∧Lib.OthersKept 5 (some b) wr w' :=
 (bld_write w.heap.size b (Lib.byteCells out.data.toList) s wr h.bld (by rw [Lib.byteCells_length];exact hs) h.bel.size).mono fun e w' hh=>⟨hh.1,⟨by
  have h1:=hh.2.1
  rw [show Lib.strCells s=Lib.byteCells s.data.toList from rfl,← Lib.byteCells_append] at h1
  have e1:(out++s).data.toList=out.data.toList++s.data.toList:=by rw [ByteArray.data_append,Array.toList_append]
  rw [e1];exact h1,h.bel.trans hh.2.2.1⟩,hh.2.2.2⟩
def PrintEnd (can:S41→Bool) (l:List S41) (w:World) (e:Ending) (w':World):Prop:=e=.returned (.string (printL can l ⟨#[]⟩))∧Below w.heap.size w w'
def gprint_7.T7:Bool × List (List Nat × List Nat):=(true,[([],[]),([0],[0]),([],[]),([2],[2]),([1,3],[1,3]),([4],[4]),([5],[5]),([],[]),([7],[7]),([],[]),([9],[9]),([8,10,4],[8,10]),([6,11],[6,11]),([12],[12]),([13],[13]),([14,11],[14])])
def gprint_7.B7:List Nat:=[0,1,0,4,15,31,63,0,128,0,512,1951,4095,8191,16383,32767]
theorem gprint_7.tab7:rtab .any (opsOf Tryd.f10 7)=gprint_7.T7:=by kernel_rfl
theorem gprint_7.bits7:waitsOk gprint_7.T7.2 gprint_7.B7=true:=by kernel_rfl
set_option maxRecDepth 100000 in
set_option maxHeartbeats 8000000 in
theorem print_calls (can:S41→Bool) (A:Option Addr) (c:Nat) (l:List S41) (w:World) (hL:LaidU w) (hr:Kd.C k41 w A l.length l) (hc:l.length≤c)
  (hcan:∀ x ∈ l,Ev (fun k=>unified_can.f k x.f0 x.f1 x.f2 x.f3 x.f4) (can x)) (hok:∀ x ∈ l,can x=true→0≤x.f0∧x.f0≤2147483648∧0≤x.f1∧x.f1≤2147483648∧0≤x.f2∧x.f2≤2147483648∧0≤x.f3∧x.f3≤2147483648)
  (hl:l.length≤1024) (hx:∀ x ∈ l,x.f4.length≤1024∧∀ s ∈ x.f4,s.size≤1048576) :
  Calls Tryd.prog 10 #[.slice A l.length c] w (PrintEnd can l w):=by
 have HL:=Aside0.mk hL
 have HR:=Aside0.mk hr
 have HC:=Aside0.mk hc
 have HCAN:=Aside0.mk hcan
 have HOK:=Aside0.mk hok
 have HX:=Aside0.mk hx
 have HFR:=Aside0.mk (show PBox w w.heap.size ⟨#[]⟩ (w.alloc (.cells #[.pointer none,.slice none 0 0] 47 (0,0))) from ⟨Lib.IsBuilderF.of (Lib.fresh_isBuilder 47 5 w),below_alloc (Below.refl _ _) _⟩)
 obtain ⟨R,hR⟩:∃ R,R=printL can l ⟨#[]⟩:=⟨_,rfl⟩
 have HE:=Aside0.mk (show ∀ e w',e=.returned (.string R)→Below w.heap.size w w'→PrintEnd can l w e w' from fun e w' h1 h2=>⟨by rw [h1,hR],h2⟩)
 have HQ0:=Aside0.mk hR.symm
 clear hL hr hc hcan hok hx hR
 go_enter Tryd.func10,Tryd.ntmps10
 go_upto_block 0 with (fail)
 generalize hw0:w.alloc (.cells #[.pointer none,.slice none 0 0] 47 (0,0))=w0 at HFR ⊢
 generalize hgg:w.heap.size=b at HFR HE ⊢
 have HGG:=Aside0.mk hgg
 clear hgg hw0
 go_wp2_with (fail)
 go_loopg [10] l.length (fun kq v10 wr=>∃ (i:Nat) (out:ByteArray),v10=.int .i64 (i:Int)∧Aside0 (i≤l.length∧l.length≤kq+i∧out.size≤i * 1100000000)∧Aside0 (printL can (l.drop i) out=R)∧Aside0 (PBox w b out wr))
 case atStart=>exact ⟨0,⟨#[]⟩,rfl,⟨by omega,by omega,Nat.zero_le _⟩,HQ0,HFR⟩
 case round =>
  clear HFR HQ0
  obtain ⟨i,out,rfl,HB,HQ,HP⟩:=hrel
  by_cases hend:i=l.length
  ·as_aux_lemma =>
   have f2:decide (i<l.length)=false:=decide_eq_false (by omega)
   have HQ2:=Aside0.mk (show out=R by rw [← HQ.out,List.drop_of_length_le (by omega)];rfl)
   have CS:=Aside0.mk (Tryd.Builder_String_any_f w.heap.size b out.data.toList wr HP.out.bld HP.out.bel.size)
   clear hend
   go_wp2_with (go_at_call 26;(with_reducible refine CS.out.mono ?_);rintro e w1 ⟨rfl,hk,hb⟩;have HB1:=Aside0.mk hb;clear hk hb)
   go_ret
   exact HE.out _ _ (by rw [← HQ2.out];first|done|rfl) (by have h_:=HP.out.bel.trans HB1.out;rw [HGG.out] at h_;exact h_)
  ·have hxl:i<l.length:=by have:=HB.out;omega
   obtain ⟨gk',HGk⟩:∃ m,Aside0 (gk=m+1):=⟨gk - 1,⟨by have:=HB.out;omega⟩⟩
   have f2:decide (i<l.length)=true:=decide_eq_true hxl
   obtain ⟨ad,A4,c4,ea,y0,y1,y2,y3,y4,hc4,hr4⟩:=at_T41 HR.out (i:Int) (by omega) (by omega)
   cases ea
   obtain ⟨x,hx⟩:∃ x,x=rd_T41 l (i:Int):=⟨_,rfl⟩
   have hxi:l[i]?=some x:=by rw [hx,rd_T41,Int.toNat_natCast,List.getD_eq_getElem?_getD,List.getElem?_eq_getElem hxl];rfl
   rw [← hx] at y0 y1 y2 y3 y4 hc4 hr4
   simp only [Int.toNat_natCast] at y0 y1 y2 y3 y4
   replace y0:=pw_cell_below HP.out.bel y0
   replace y1:=pw_cell_below HP.out.bel y1
   replace y2:=pw_cell_below HP.out.bel y2
   replace y3:=pw_cell_below HP.out.bel y3
   replace y4:=pw_cell_below HP.out.bel y4
   have HXI:=Aside0.mk hxi
   have HC4:=Aside0.mk hc4
   have HR4:=Aside0.mk hr4
   have kx:IntKind.i64.wrap ((i:Int)+1)=(i:Int)+1:=IntWalk.i64_in _ (by omega)
   clear hx hxi hc4 hr4 hend
   go_upto_region 5 with (fail)
   have HBX:=Aside0.mk (blk_new wr (.cells #[.int .i64 x.f0,.int .i64 x.f1,.int .i64 x.f2,.int .i64 x.f3,.slice A4 x.f4.length c4] 41 (0,0)))
   have HP1:=Aside0.mk (HP.out.below (below_alloc (Below.refl _ _) (.cells #[.int .i64 x.f0,.int .i64 x.f1,.int .i64 x.f2,.int .i64 x.f3,.slice A4 x.f4.length c4] 41 (0,0))))
   have HR5:=Aside0.mk (Kd.C_below HR4.out HP1.out.bel)
   generalize wr.alloc (.cells #[.int .i64 x.f0,.int .i64 x.f1,.int .i64 x.f2,.int .i64 x.f3,.slice A4 x.f4.length c4] 41 (0,0))=W1 at HBX HP1 HR5 ⊢
   generalize wr.heap.size=g at HBX ⊢
   clear y0 y1 y2 y3 y4
   have hmem:x ∈ l:=List.mem_of_getElem? HXI.out
   obtain ⟨kc,hkc⟩:=(HCAN.out x hmem).rounds
   have HD:=Aside0.mk (show l.drop i=x :: l.drop (i+1) by
    have h_:=HXI.out
    rw [List.getElem?_eq_getElem hxl] at h_
    rw [List.drop_eq_getElem_cons hxl,Option.some.inj h_])
   have z0:W1.cell? ⟨g,0,none⟩=some (.int .i64 x.f0):=(blk_cell HBX.out 0).trans rfl
   have z1:W1.cell? ⟨g,1,none⟩=some (.int .i64 x.f1):=(blk_cell HBX.out 1).trans rfl
   have z2:W1.cell? ⟨g,2,none⟩=some (.int .i64 x.f2):=(blk_cell HBX.out 2).trans rfl
   have z3:W1.cell? ⟨g,3,none⟩=some (.int .i64 x.f3):=(blk_cell HBX.out 3).trans rfl
   have z4:W1.cell? ⟨g,4,none⟩=some (.slice A4 x.f4.length c4):=(blk_cell HBX.out 4).trans rfl
   by_cases hcx:can x=true
   ·have CC:=Aside0.mk (unified_can.calls kc x.f0 x.f1 x.f2 x.f3 A4 c4 x.f4 true W1 HR5.out HC4.out (by rw [← hcx];exact hkc))
    have HOX:=Aside0.mk (HOK.out x hmem hcx)
    have HXX:=Aside0.mk (HX.out x hmem)
    have HQ2:=Aside0.mk (show printL can (l.drop (i+1)) (bodyOf x.f4 (out++headOf x))=R by rw [← HQ.out,HD.out,printL,if_pos hcx])
    clear hcx hkc hmem
    go_upto_region 7 with (go_at_call 22;(with_reducible refine CC.out.mono ?_);rintro e w2 ⟨rfl,hb⟩;have HP2:=Aside0.mk (HP1.out.below hb);have HB2X:=Aside0.mk (blk_below HBX.out hb);clear hb)
    have HL2:=Aside0.mk (HL.out.below HP2.out.bel)
    have HNG:=Aside0.mk (show g≠b from by obtain ⟨cs,h_⟩:=HP2.out.blk;exact blk_ne HB2X.out h_ (by decide))
    clear z0 z1 z2 z3 z4
    obtain ⟨f1,hf1⟩:∃ f,f=fromB x.f0 x.f1:=⟨_,rfl⟩
    obtain ⟨f2,hf2⟩:∃ f,f=fromB x.f2 x.f3:=⟨_,rfl⟩
    have hs1:f1.size≤50:=by rw [hf1];exact fromB_size (by have:=HOX.out;omega) (by have:=HOX.out;omega) (by have:=HOX.out;omega) (by have:=HOX.out;omega)
    have hs2:f2.size≤50:=by rw [hf2];exact fromB_size (by have:=HOX.out;omega) (by have:=HOX.out;omega) (by have:=HOX.out;omega) (by have:=HOX.out;omega)
    have F1:=Aside0.mk (show ∀ W,LaidU W→Calls Tryd.prog 24 #[.int .i64 x.f0,.int .i64 x.f1] W fun e w'=>e=.returned (.string f1)∧Below W.heap.size W w' by intro W hW;rw [hf1];exact from_calls x.f0 x.f1 (by have:=HOX.out;omega) (by have:=HOX.out;omega) (by have:=HOX.out;omega) (by have:=HOX.out;omega) W hW)
    have F2:=Aside0.mk (show ∀ W,LaidU W→Calls Tryd.prog 24 #[.int .i64 x.f2,.int .i64 x.f3] W fun e w'=>e=.returned (.string f2)∧Below W.heap.size W w' by intro W hW;rw [hf2];exact from_calls x.f2 x.f3 (by have:=HOX.out;omega) (by have:=HOX.out;omega) (by have:=HOX.out;omega) (by have:=HOX.out;omega) W hW)
    have HHD:=Aside0.mk (show headOf x=(⟨#[64,64,32,45]⟩:ByteArray)++f1++(⟨#[32,43]⟩:ByteArray)++f2++(⟨#[32,64,64]⟩:ByteArray)++(⟨#[10]⟩:ByteArray) by rw [headOf,← hf1,← hf2])
    have n1:(9223372036854775807<4+f1.size)=False:=eq_false (by omega)
    have n2:(9223372036854775807<4+f1.size+2)=False:=eq_false (by omega)
    have n3:(9223372036854775807<4+f1.size+2+f2.size)=False:=eq_false (by omega)
    have n4:(9223372036854775807<4+f1.size+2+f2.size+3)=False:=eq_false (by omega)
    have n5:(9223372036854775807<4+f1.size+2+f2.size+3+1)=False:=eq_false (by omega)
    have hho:(headOf x).size≤200:=by rw [HHD.out];simp only [ByteArray.size_append];show 4+f1.size+2+f2.size+3+1≤200;omega
    have HHO:=Aside0.mk hho
    have HFF:=Aside0.mk (And.intro hf1 hf2)
    obtain ⟨n0,hn0⟩:∃ n0:Int,n0=((headOf x).size:Int):=⟨_,rfl⟩
    have PW7:=Aside0.mk (show ∀ W,PBox w b out W→Calls Tryd.prog 23 #[.pointer (some ⟨b,0,none⟩),.string ((⟨#[64,64,32,45]⟩:ByteArray)++f1++(⟨#[32,43]⟩:ByteArray)++f2++(⟨#[32,64,64]⟩:ByteArray)++(⟨#[10]⟩:ByteArray))] W fun e w'=>e=.returned (.tuple #[.int .i64 n0,.nilIface])∧PBox w b (out++headOf x) w'∧Lib.OthersKept 5 (some b) W w' by
     intro W h
     rw [← HHD.out,hn0]
     exact pwrite w b out _ W h (by have:=HHO.out;have:=HB.out;omega))
    clear hn0
    clear hf1 hf2 hs1 hs2 hho
    have HP3:=Aside0.mk (HP2.out.below (below_drew (Below.refl _ _)))
    have HB3X:=Aside0.mk (blk_below HB2X.out (below_drew (Below.refl _ _)))
    have HL3:=Aside0.mk (HL2.out.below (below_drew (Below.refl _ _)))
    have z0:w2.drew.cell? ⟨g,0,none⟩=some (.int .i64 x.f0):=(blk_cell HB3X.out 0).trans rfl
    have z1:w2.drew.cell? ⟨g,1,none⟩=some (.int .i64 x.f1):=(blk_cell HB3X.out 1).trans rfl
    have z2:w2.drew.cell? ⟨g,2,none⟩=some (.int .i64 x.f2):=(blk_cell HB3X.out 2).trans rfl
    have z3:w2.drew.cell? ⟨g,3,none⟩=some (.int .i64 x.f3):=(blk_cell HB3X.out 3).trans rfl
    refine start_ (n:=16) (S:=fun w'=>w'.cell? ⟨g,0,none⟩=some (.int .i64 x.f0)∧w'.cell? ⟨g,1,none⟩=some (.int .i64 x.f1)∧w'.cell? ⟨g,2,none⟩=some (.int .i64 x.f2)∧w'.cell? ⟨g,3,none⟩=some (.int .i64 x.f3)) (ds:=[15]) #[false,false,false,false,false,false,false,false,false,false,false,false,false,false,false,false] (by kernel_rfl) rfl rfl ⟨z0,z1,z2,z3⟩ (fun hHeld=>?_)
    refine with_tabW gprint_7.tab7 gprint_7.bits7 (fun HT_ HW_=>?_)
    generalize w2.drew=w3 at HP3 HB3X HL3 z0 z1 z2 z3 hHeld ⊢
    refine pure_ (i:=0) (N:=some 17) (v:=?_) (a':=?_) #[true,false,false,false,false,false,false,false,false,false,false,false,false,false,false,false] rfl rfl (any_of HT_.out (by kernel_rfl)) (fun _ _ _ h=>h) (Or.inl ⟨by rfl,?_⟩) ?_ ?_
    rotate_left
    ·intro w'
     go_simp
     with_reducible rfl
    rotate_left
    ·simp only [Act.put,List.setIfInBounds_toArray,List.set_cons_zero,List.set_cons_succ,i64_w,i32_w]
     rfl
    refine pure_ (i:=2) (N:=some 19) (v:=?_) (a':=?_) #[true,false,true,false,false,false,false,false,false,false,false,false,false,false,false,false] rfl rfl (any_of HT_.out (by kernel_rfl)) (fun _ _ _ h=>h) (Or.inl ⟨by rfl,?_⟩) ?_ ?_
    rotate_left
    ·intro w'
     go_simp
     with_reducible rfl
    rotate_left
    ·simp only [Act.put,List.setIfInBounds_toArray,List.set_cons_zero,List.set_cons_succ,i64_w,i32_w]
     rfl
    refine pure_ (i:=7) (N:=some 24) (v:=?_) (a':=?_) #[true,false,true,false,false,false,false,true,false,false,false,false,false,false,false,false] rfl rfl (any_of HT_.out (by kernel_rfl)) (fun _ _ _ h=>h) (Or.inl ⟨by rfl,?_⟩) ?_ ?_
    rotate_left
    ·intro w'
     go_simp
     with_reducible rfl
    rotate_left
    ·simp only [Act.put,List.setIfInBounds_toArray,List.set_cons_zero,List.set_cons_succ,i64_w,i32_w]
     rfl
    refine pure_ (i:=9) (N:=some 26) (v:=?_) (a':=?_) #[true,false,true,false,false,false,false,true,false,true,false,false,false,false,false,false] rfl rfl (any_of HT_.out (by kernel_rfl)) (fun _ _ _ h=>h) (Or.inl ⟨by rfl,?_⟩) ?_ ?_
    rotate_left
    ·intro w'
     go_simp
     with_reducible rfl
    rotate_left
    ·simp only [Act.put,List.setIfInBounds_toArray,List.set_cons_zero,List.set_cons_succ,i64_w,i32_w]
     rfl
    refine take_ (i:=1) (N:=some 18) (v:=?_) (a':=?_) #[true,true,true,false,false,false,false,true,false,true,false,false,false,false,false,false] rfl rfl (take_ofW HT_.out HW_.out (by kernel_rfl)) (fun _ _ _ h=>h) (Or.inl ⟨by rfl,?_⟩) hHeld ?_ ?_
    rotate_left
    ·rintro w' ⟨s0,s1,s2,s3⟩
     go_simp
     with_reducible rfl
    rotate_left
    ·simp only [Act.put,List.setIfInBounds_toArray,List.set_cons_zero,List.set_cons_succ,i64_w,i32_w]
     rfl
    refine take_ (i:=3) (N:=some 20) (v:=?_) (a':=?_) #[true,true,true,true,false,false,false,true,false,true,false,false,false,false,false,false] rfl rfl (take_ofW HT_.out HW_.out (by kernel_rfl)) (fun _ _ _ h=>h) (Or.inl ⟨by rfl,?_⟩) hHeld ?_ ?_
    rotate_left
    ·rintro w' ⟨s0,s1,s2,s3⟩
     go_simp
     with_reducible rfl
    rotate_left
    ·simp only [Act.put,List.setIfInBounds_toArray,List.set_cons_zero,List.set_cons_succ,i64_w,i32_w]
     rfl
    refine take_ (i:=8) (N:=some 25) (v:=?_) (a':=?_) #[true,true,true,true,false,false,false,true,true,true,false,false,false,false,false,false] rfl rfl (take_ofW HT_.out HW_.out (by kernel_rfl)) (fun _ _ _ h=>h) (Or.inl ⟨by rfl,?_⟩) hHeld ?_ ?_
    rotate_left
    ·rintro w' ⟨s0,s1,s2,s3⟩
     go_simp
     with_reducible rfl
    rotate_left
    ·simp only [Act.put,List.setIfInBounds_toArray,List.set_cons_zero,List.set_cons_succ,i64_w,i32_w]
     rfl
    refine take_ (i:=10) (N:=some 27) (v:=?_) (a':=?_) #[true,true,true,true,false,false,false,true,true,true,true,false,false,false,false,false] rfl rfl (take_ofW HT_.out HW_.out (by kernel_rfl)) (fun _ _ _ h=>h) (Or.inl ⟨by rfl,?_⟩) hHeld ?_ ?_
    rotate_left
    ·rintro w' ⟨s0,s1,s2,s3⟩
     go_simp
     with_reducible rfl
    rotate_left
    ·simp only [Act.put,List.setIfInBounds_toArray,List.set_cons_zero,List.set_cons_succ,i64_w,i32_w]
     rfl
    refine one_ (i:=4) (N:=some 21) #[true,true,true,true,true,false,false,true,true,true,true,false,false,false,false,false] rfl rfl (one_of HT_.out (by kernel_rfl)) (by decide) (fun K hK=>?_)
    refine goes_ Tryd.func24 (by kernel_rfl) rfl #[.int .i64 x.f0,.int .i64 x.f1] (by rfl) rfl rfl (by simp only [List.map_toArray,List.map_cons,List.map_nil];rfl) ?_
    with_reducible refine (F1.out _ HL3.out).mono ?_
    rintro e w5 ⟨rfl,hb⟩
    refine ⟨_,rfl,?_⟩
    have y50:=pw_cell_below hb z0
    have y51:=pw_cell_below hb z1
    have y52:=pw_cell_below hb z2
    have y53:=pw_cell_below hb z3
    have HP5:=Aside0.mk (HP3.out.below hb)
    have HB5X:=Aside0.mk (blk_below HB3X.out hb)
    have HL5:=Aside0.mk (HL3.out.below hb)
    clear hb
    refine hK.out _ _ ⟨y50,y51,y52,y53⟩ (fun hHeld=>?_)
    clear hK K
    refine norm_ (a':=?_) ?_ ?_
    rotate_left
    ·show Act.put _ (some 21) _=_
     simp only [Act.put,List.setIfInBounds_toArray,List.set_cons_zero,List.set_cons_succ,i64_w,i32_w]
     rfl
    refine pure_ (i:=5) (N:=some 22) (v:=?_) (a':=?_) #[true,true,true,true,true,true,false,true,true,true,true,false,false,false,false,false] rfl rfl (any_of HT_.out (by kernel_rfl)) (fun _ _ _ h=>h) (Or.inl ⟨by rfl,?_⟩) ?_ ?_
    rotate_left
    ·intro w'
     go_simp
     with_reducible rfl
    rotate_left
    ·simp only [Act.put,List.setIfInBounds_toArray,List.set_cons_zero,List.set_cons_succ,i64_w,i32_w]
     rfl
    refine pure_ (i:=6) (N:=some 23) (v:=?_) (a':=?_) #[true,true,true,true,true,true,true,true,true,true,true,false,false,false,false,false] rfl rfl (any_of HT_.out (by kernel_rfl)) (fun _ _ _ h=>h) (Or.inl ⟨by rfl,?_⟩) ?_ ?_
    rotate_left
    ·intro w'
     go_simp
     with_reducible rfl
    rotate_left
    ·simp only [Act.put,List.setIfInBounds_toArray,List.set_cons_zero,List.set_cons_succ,i64_w,i32_w]
     rfl
    refine one_ (i:=11) (N:=some 28) #[true,true,true,true,true,true,true,true,true,true,true,true,false,false,false,false] rfl rfl (one_of HT_.out (by kernel_rfl)) (by decide) (fun K hK=>?_)
    refine goes_ Tryd.func24 (by kernel_rfl) rfl #[.int .i64 x.f2,.int .i64 x.f3] (by rfl) rfl rfl (by simp only [List.map_toArray,List.map_cons,List.map_nil];rfl) ?_
    with_reducible refine (F2.out _ HL5.out).mono ?_
    rintro e w6 ⟨rfl,hb⟩
    refine ⟨_,rfl,?_⟩
    have y60:=pw_cell_below hb y50
    have y61:=pw_cell_below hb y51
    have y62:=pw_cell_below hb y52
    have y63:=pw_cell_below hb y53
    have HP6:=Aside0.mk (HP5.out.below hb)
    have HB6X:=Aside0.mk (blk_below HB5X.out hb)
    have HL6:=Aside0.mk (HL5.out.below hb)
    clear hb
    refine hK.out _ _ ⟨y60,y61,y62,y63⟩ (fun hHeld=>?_)
    clear hK K
    refine norm_ (a':=?_) ?_ ?_
    rotate_left
    ·show Act.put _ (some 28) _=_
     simp only [Act.put,List.setIfInBounds_toArray,List.set_cons_zero,List.set_cons_succ,i64_w,i32_w]
     rfl
    refine pure_ (i:=12) (N:=some 29) (v:=?_) (a':=?_) #[true,true,true,true,true,true,true,true,true,true,true,true,true,false,false,false] rfl rfl (any_of HT_.out (by kernel_rfl)) (fun _ _ _ h=>h) (Or.inl ⟨by rfl,?_⟩) ?_ ?_
    rotate_left
    ·intro w'
     go_simp
     with_reducible rfl
    rotate_left
    ·simp only [Act.put,List.setIfInBounds_toArray,List.set_cons_zero,List.set_cons_succ,i64_w,i32_w]
     rfl
    refine pure_ (i:=13) (N:=some 30) (v:=?_) (a':=?_) #[true,true,true,true,true,true,true,true,true,true,true,true,true,true,false,false] rfl rfl (any_of HT_.out (by kernel_rfl)) (fun _ _ _ h=>h) (Or.inl ⟨by rfl,?_⟩) ?_ ?_
    rotate_left
    ·intro w'
     go_simp
     with_reducible rfl
    rotate_left
    ·simp only [Act.put,List.setIfInBounds_toArray,List.set_cons_zero,List.set_cons_succ,i64_w,i32_w]
     rfl
    refine pure_ (i:=14) (N:=some 31) (v:=?_) (a':=?_) #[true,true,true,true,true,true,true,true,true,true,true,true,true,true,true,false] rfl rfl (any_of HT_.out (by kernel_rfl)) (fun _ _ _ h=>h) (Or.inl ⟨by rfl,?_⟩) ?_ ?_
    rotate_left
    ·intro w'
     go_simp
     with_reducible rfl
    rotate_left
    ·simp only [Act.put,List.setIfInBounds_toArray,List.set_cons_zero,List.set_cons_succ,i64_w,i32_w]
     rfl
    refine last_ (i:=15) (N:=some 32) #[true,true,true,true,true,true,true,true,true,true,true,true,true,true,true,true] rfl rfl (one_of HT_.out (by kernel_rfl)) (by decide) (fun K hK=>?_)
    refine goes_ Tryd.func23 (by kernel_rfl) rfl #[.pointer (some ⟨b,0,none⟩),.string ((⟨#[64,64,32,45]⟩:ByteArray)++f1++(⟨#[32,43]⟩:ByteArray)++f2++(⟨#[32,64,64]⟩:ByteArray)++(⟨#[10]⟩:ByteArray))] (by rfl) rfl rfl (by simp only [List.map_toArray,List.map_cons,List.map_nil];rfl) ?_
    with_reducible refine (PW7.out _ HP6.out).mono ?_
    rintro e w7 ⟨rfl,h7,hk7⟩
    refine ⟨_,rfl,?_⟩
    have HP7:=Aside0.mk h7
    have HB7X:=Aside0.mk (hk7 _ _ HB6X.out (by intro e;injection e with e;exact HNG.out e) (fun c fz e=>by cases e))
    clear h7 hk7
    refine hK.out _ _ ?_
    clear hK K
    refine norm_ (a':=?_) ?_ ?_
    rotate_left
    ·show Act.put _ (some 32) _=_
     simp only [Act.put,List.setIfInBounds_toArray,List.set_cons_zero,List.set_cons_succ,i64_w,i32_w]
     rfl
    refine done_ (done_of HT_.out (by kernel_rfl)) ?_

    clear z0 z1 z2 z3 n1 n2 n3 n4 n5 hHeld
    have z4:w7.cell? ⟨g,4,none⟩=some (.slice A4 x.f4.length c4):=(blk_cell HB7X.out 4).trans rfl
    have HP8:=HP7
    go_upto_block 2 with (fail)
    clear z4
    go_wp2_with (fail)
    go_loopg [36] x.f4.length (fun kr v36 wi=>∃ (j:Nat) (o:ByteArray),v36=.int .i64 (j:Int)∧Aside0 (j≤x.f4.length∧x.f4.length≤kr+j∧o.size≤i * 1100000000+200+j * 1048700)∧Aside0 (bodyOf (x.f4.drop j) o=bodyOf x.f4 (out++headOf x))∧Aside0 (PBox w b o wi))
    case atStart=>exact ⟨0,out++headOf x,rfl,⟨by have:=HB.out;have:=HHO.out;rw [ByteArray.size_append];omega⟩,⟨rfl⟩,HP8⟩
    case round =>
     obtain ⟨j,o,rfl,HBJ,HQJ,HPJ⟩:=hrel
     by_cases hej:j=x.f4.length
     ·as_aux_lemma =>
      have f3:decide (j<x.f4.length)=false:=decide_eq_false (by omega)
      have HQ4:=Aside0.mk (show printL can (l.drop (i+1)) o=R by rw [← HQ2.out,← HQJ.out,show x.f4.drop j=[] from List.drop_of_length_le (by omega)];rfl)
      have HOB:=Aside0.mk (show o.size≤(i+1) * 1100000000 by have:=HBJ.out;have:=HXX.out.1;omega)
      clear hej
      go_wp2
      go_roundg gk'
      case measure=>have:=HGk.out;omega
      case rel=>exact ⟨i+1,o,by go_num,⟨by have:=HB.out;have:=HGk.out;have:=HOB.out;omega⟩,HQ4,HPJ⟩
     ·have hjl:j<x.f4.length:=by have:=HBJ.out;omega
      obtain ⟨gr',HGr⟩:∃ m,Aside0 (gk=m+1):=⟨gk - 1,⟨by have:=HBJ.out;omega⟩⟩
      have f3:decide (j<x.f4.length)=true:=decide_eq_true hjl
      obtain ⟨ae,ee,hs1⟩:=at_textA (Kd.C_below HR4.out HPJ.out.bel) j hjl
      cases ee
      obtain ⟨s,hs⟩:∃ s,s=x.f4[j]:=⟨_,rfl⟩
      rw [← hs] at hs1
      have HSZ:=Aside0.mk (show s.size≤1048576 by rw [hs];exact HXX.out.2 _ (List.getElem_mem hjl))
      have HDJ:=Aside0.mk (show x.f4.drop j=s :: x.f4.drop (j+1) by rw [hs];exact List.drop_eq_getElem_cons hjl)
      have ky:IntKind.i64.wrap ((j:Int)+1)=(j:Int)+1:=IntWalk.i64_in _ (by have:=HXX.out.1;omega)
      have PW:=Aside0.mk (pwrite w b o s wr HPJ.out (by have:=HBJ.out;have:=HSZ.out;have:=HB.out;have:=HXX.out.1;omega))
      have PW2:=Aside0.mk (show ∀ W,PBox w b (o++s) W→Calls Tryd.prog 23 #[.pointer (some ⟨b,0,none⟩),.string ⟨#[10,92,32,78,111,32,110,101,119,108,105,110,101,32,97,116,32,101,110,100,32,111,102,32,102,105,108,101,10]⟩] W fun e w'=>e=.returned (.tuple #[.int .i64 29,.nilIface])∧PBox w b (o++s++tailB) w' from fun W h=>(pwrite w b (o++s) tailB W h (by rw [ByteArray.size_append];show o.size+s.size+29≤_;have:=HBJ.out;have:=HSZ.out;have:=HB.out;have:=HXX.out.1;omega)).mono fun e w' hh=>⟨hh.1,hh.2.1⟩)
      have HXL:=Aside0.mk hjl
      clear hs hej
      by_cases hcl:closedL s.data.toList=true
      ·as_aux_lemma =>
       have CL:=Aside0.mk (show lines_Closed.f s=some true by rw [← hcl];exact Closed_some s (by have:=HSZ.out;omega))
       have HLO:=Aside0.mk (show bodyOf (x.f4.drop (j+1)) (o++s)=bodyOf x.f4 (out++headOf x) by rw [← HQJ.out,HDJ.out,bodyOf,lineOf,if_pos hcl])
       clear hcl
       go_wp2_with (first
        | (go_at_call 23;(with_reducible refine PW.out.mono ?_);rintro e w8 ⟨rfl,h8,_⟩;have HP9:=Aside0.mk h8;clear h8)
        | (go_at_call 25;(with_reducible refine (lines_Closed.calls s true _ CL.out).mono ?_);rintro e w9 ⟨rfl,⟨nd,rfl⟩⟩))
       go_roundg gr'
       case measure=>have:=HGr.out;omega
       case rel=>exact ⟨j+1,o++s,by go_num,⟨by have:=HBJ.out;have:=HGr.out;have:=HXL.out;have:=HSZ.out;rw [ByteArray.size_append];omega⟩,HLO,⟨HP9.out.below (pw_below_drewN (Below.refl _ _) _)⟩⟩
      ·as_aux_lemma =>
       have CL:=Aside0.mk (show lines_Closed.f s=some false by rw [← Bool.eq_false_iff.2 hcl];exact Closed_some s (by have:=HSZ.out;omega))
       have HLO:=Aside0.mk (show bodyOf (x.f4.drop (j+1)) (o++s++tailB)=bodyOf x.f4 (out++headOf x) by rw [← HQJ.out,HDJ.out,bodyOf,lineOf,if_neg hcl,ByteArray.append_assoc])
       clear hcl
       go_wp2_with (first
        | (go_at_call 23;(with_reducible refine PW.out.mono ?_);rintro e w8 ⟨rfl,h8,_⟩;have HP9:=Aside0.mk h8;clear h8)
        | (go_at_call 23;(with_reducible refine (PW2.out _ (HP9.out.below (pw_below_drewN (Below.refl _ _) _))).mono ?_);rintro e wa ⟨rfl,ha⟩;have HPA:=Aside0.mk ha;clear ha)
        | (go_at_call 25;(with_reducible refine (lines_Closed.calls s false _ CL.out).mono ?_);rintro e w9 ⟨rfl,⟨nd,rfl⟩⟩))
       go_roundg gr'
       case measure=>have:=HGr.out;omega
       case rel=>exact ⟨j+1,o++s++tailB,by go_num,⟨by have:=HBJ.out;have:=HGr.out;have:=HXL.out;have:=HSZ.out;rw [ByteArray.size_append,ByteArray.size_append];show _∧_∧o.size+s.size+29≤_;omega⟩,HLO,HPA⟩
   ·have CC:=Aside0.mk (unified_can.calls kc x.f0 x.f1 x.f2 x.f3 A4 c4 x.f4 false W1 HR5.out HC4.out (by rw [← Bool.eq_false_iff.2 hcx];exact hkc))
    have HR2:=Aside0.mk (show (⟨#[]⟩:ByteArray)=R by rw [← HQ.out,HD.out,printL,if_neg hcx])
    clear hcx hkc hmem
    go_wp2_with (go_at_call 22;(with_reducible refine CC.out.mono ?_);rintro e w2 ⟨rfl,hb⟩;have HP2:=Aside0.mk (HP1.out.below hb);clear hb)
    go_ret
    exact HE.out _ _ (by rw [← HR2.out];first|done|rfl) (by have h_:=HP2.out.bel;rw [HGG.out] at h_;exact h_)
end Go.Proofs.YtamojbfmphainaaDoor.Pr
-- shrunk
-- written by a program of this session's (a turned copy of the kit's printer); Lean checks it
namespace Go.Proofs.YtamojbfmphainaaDoor.Pr
open Go.RowKit Go.Proofs.YtamojbfmphainaaDoorW.PrintWords Go.Proofs.YtamojbfmphainaaDoorW.PrintLast Go.Proofs.YtamojbfmphainaaDoorW.PrintMore
attribute [local go_sem] max2_int min2_int max_two min_two max_three min_three max_four min_four   -- for this text's walks alone

mutual
def r06_can.l0:Nat→Bool→Int→Int→Int→Int→Int→List ByteArray→Option (Bool)
 | 0,_,_,_,_,_,_,_=>none
 | k+1,x3,x4,x171000,x171001,x171002,x171003,x171004=>if x4<(x171004.length:Int) then (r06_can.l1 k x3 x4 0 x171000 x171001 x171002 x171003 x171004) else (if x171000 > 2147483646 then (if x171001 > 0 then (some false) else (if x171002 > 2147483646 then (if x171003 > 0 then (some false) else (if x3=true then (if x171000<2147483648 then (if x171001<2147483648 then (if x171002<2147483648 then (some (decide (x171003<2147483648))) else (some false)) else (some false)) else (some false)) else (some false))) else (if x3=true then (if x171000<2147483648 then (if x171001<2147483648 then (if x171002<2147483648 then (some (decide (x171003<2147483648))) else (some false)) else (some false)) else (some false)) else (some false)))) else (if x171002 > 2147483646 then (if x171003 > 0 then (some false) else (if x3=true then (if x171000<2147483648 then (if x171001<2147483648 then (if x171002<2147483648 then (some (decide (x171003<2147483648))) else (some false)) else (some false)) else (some false)) else (some false))) else (if x3=true then (if x171000<2147483648 then (if x171001<2147483648 then (if x171002<2147483648 then (some (decide (x171003<2147483648))) else (some false)) else (some false)) else (some false)) else (some false))))
def r06_can.l1:Nat→Bool→Int→Int→Int→Int→Int→Int→List ByteArray→Option (Bool)
 | 0,_,_,_,_,_,_,_,_=>none
 | k+1,x3,x4,x5,x171000,x171001,x171002,x171003,x171004=>if 0≤x4 then (if x4<(x171004.length:Int) then (if x5<(wrap64 (((rdOf ByteArray.empty x171004 x4).size:Int) - 1)) then (if 0≤x5 then (if x5<((rdOf ByteArray.empty x171004 x4).size:Int) then (if (bt (rdOf ByteArray.empty x171004 x4) x5)=10 then (some false) else (r06_can.l1 k x3 x4 (wrap64 (x5+1)) x171000 x171001 x171002 x171003 x171004)) else (none)) else (none)) else (r06_can.l0 k x3 (wrap64 (x4+1)) x171000 x171001 x171002 x171003 x171004)) else (none)) else (none)
end
end Go.Proofs.YtamojbfmphainaaDoor.Pr
-- shrunk
-- written by a program of this session's (a turned copy of the kit's printer); Lean checks it
namespace Go.Proofs.YtamojbfmphainaaDoor.Pr
open Go.RowKit Go.Proofs.YtamojbfmphainaaDoorW.PrintWords Go.Proofs.YtamojbfmphainaaDoorW.PrintLast Go.Proofs.YtamojbfmphainaaDoorW.PrintMore
attribute [local go_sem] max2_int min2_int max_two min_two max_three min_three max_four min_four   -- for this text's walks alone

end Go.Proofs.YtamojbfmphainaaDoor.Pr
-- shrunk
-- written by a program of this session's (a turned copy of the kit's printer); Lean checks it
namespace Go.Proofs.YtamojbfmphainaaDoor.Pr
open Go.RowKit Go.Proofs.YtamojbfmphainaaDoorW.PrintWords Go.Proofs.YtamojbfmphainaaDoorW.PrintLast Go.Proofs.YtamojbfmphainaaDoorW.PrintMore
attribute [local go_sem] max2_int min2_int max_two min_two max_three min_three max_four min_four   -- for this text's walks alone

end Go.Proofs.YtamojbfmphainaaDoor.Pr
-- shrunk
-- written by a program of this session's (a turned copy of the kit's printer); Lean checks it
namespace Go.Proofs.YtamojbfmphainaaDoor.Pr
open Go.RowKit Go.Proofs.YtamojbfmphainaaDoorW.PrintWords Go.Proofs.YtamojbfmphainaaDoorW.PrintLast Go.Proofs.YtamojbfmphainaaDoorW.PrintMore
attribute [local go_sem] max2_int min2_int max_two min_two max_three min_three max_four min_four   -- for this text's walks alone

end Go.Proofs.YtamojbfmphainaaDoor.Pr
-- shrunk
/-
The document's Print, walked.
-/
namespace Go.Proofs.YtamojbfmphainaaDoor.Pr
open Go.RowKit Go.Proofs.YtamojbfmphainaaDoorW.PrintWords Go.Proofs.YtamojbfmphainaaDoorW.PrintLast Go.Proofs.YtamojbfmphainaaDoorW.PrintMore
theorem below_drawn {w w':World} (h:Drawn0 w w'):Below w.heap.size w w':=by
 obtain ⟨n,rfl⟩:=h.out
 exact pw_below_drewN (Below.refl _ _) n
end Go.Proofs.YtamojbfmphainaaDoor.Pr
-- shrunk
-- written by a program of this session's (a turned copy of the kit's printer); Lean checks it
namespace Go.Proofs.YtamojbfmphainaaDoor.Pr
open Go.RowKit Go.Proofs.YtamojbfmphainaaDoorW.PrintWords Go.Proofs.YtamojbfmphainaaDoorW.PrintLast Go.Proofs.YtamojbfmphainaaDoorW.PrintMore
attribute [local go_sem] max2_int min2_int max_two min_two max_three min_three max_four min_four   -- for this text's walks alone

end Go.Proofs.YtamojbfmphainaaDoor.Pr
-- shrunk
-- written by a program of this session's (a turned copy of the kit's printer); Lean checks it
namespace Go.Proofs.YtamojbfmphainaaDoor.Pr
open Go.RowKit Go.Proofs.YtamojbfmphainaaDoorW.PrintWords Go.Proofs.YtamojbfmphainaaDoorW.PrintLast Go.Proofs.YtamojbfmphainaaDoorW.PrintMore
attribute [local go_sem] max2_int min2_int max_two min_two max_three min_three max_four min_four   -- for this text's walks alone

mutual
def l06_few.l0:Nat→List (S41)→Bool→Int→Int→Option (Bool)
 | 0,_,_,_,_=>none
 | k+1,x0,x3,x4,x5=>if x5<(x0.length:Int) then (l06_few.j1 k x0 x3 x4 x5 x3) else (l06_few.j1 k x0 x3 x4 x5 false)
def l06_few.j1:Nat→List (S41)→Bool→Int→Int→Bool→Option (Bool)
 | 0,_,_,_,_,_=>none
 | k+1,x0,x3,x4,x5,x15=>if x15=true then (l06_few.l1 k x0 x3 x4 x5 0) else (if x3=true then (some (decide (x4≤500))) else (some false))
def l06_few.l1:Nat→List (S41)→Bool→Int→Int→Int→Option (Bool)
 | 0,_,_,_,_,_=>none
 | k+1,x0,x3,x4,x5,x6=>if 0≤x5 then (if x5<(x0.length:Int) then (if x6<(((rd_T41 x0 x5).f4).length:Int) then (if 0≤x6 then (l06_few.l1 k x0 x3 (wrap64 ((wrap64 (x4+(mn ((rdOf ByteArray.empty ((rd_T41 x0 x5).f4) x6).size:Int) 500)))+1)) x5 (wrap64 (x6+1))) else (none)) else (l06_few.l0 k x0 x3 x4 (wrap64 (x5+1)))) else (none)) else (none)
end
end Go.Proofs.YtamojbfmphainaaDoor.Pr
-- shrunk
/-
What Print's parts answer, in plain Lean: which hunks can be told, a side of a head, which lists are looked at.
-/
namespace Go.Proofs.YtamojbfmphainaaDoor.Pr
open Go.RowKit Go.Proofs.YtamojbfmphainaaDoorW.PrintWords Go.Proofs.YtamojbfmphainaaDoorW.PrintLast Go.Proofs.YtamojbfmphainaaDoorW.PrintMore
theorem index_mem (l:List UInt8) (c:UInt8):decide (Lib.indexByte l c ≥ 0)=decide (c ∈ l):=by
 induction l with
 | nil=>simp [Lib.indexByte]
 | cons b l ih =>
  unfold Lib.indexByte
  by_cases h:b=c
  ·subst h;simp
  ·have h1:=indexByte_lt l c
   have hb:(b == c)=false:=by simpa using h
   rw [hb]
   have e:decide (c ∈ b :: l)=decide (c ∈ l):=decide_eq_decide.2 (by simp [Ne.symm h])
   rw [e,← ih]
   by_cases h2:Lib.indexByte l c = -1
   ·simp [h2]
   ·have h4:(Lib.indexByte l c == -1)=false:=by simpa using h2
    rw [h4]
    simp only [Bool.false_eq_true,if_false]
    exact decide_eq_decide.2 (by omega)
def noNl (s:ByteArray):Bool:=decide (¬ (10:UInt8) ∈ s.data.toList.dropLast)
theorem suffix_nl (s:ByteArray) (h:s.size≤4611686018427387904) (h0:s.size≠0):stringslite_HasSuffix.f s (⟨#[10]⟩:ByteArray)=some (closedL s.data.toList):=by
 have h1:=Closed_some s h
 unfold lines_Closed.f at h1
 rw [if_neg (str_ne s h0)] at h1
 unfold strings_HasSuffix.f at h1
 rcases h2:stringslite_HasSuffix.f s (⟨#[10]⟩:ByteArray) with _|b
 ·rw [h2] at h1;cases h1
 ·rw [h2] at h1;exact h1
theorem plain_some (s:ByteArray) (h:s.size≤4611686018427387904):unified_plain.f s=some (noNl s):=by
 have hlen:s.data.toList.length=s.size:=rfl
 have con:∀ t:ByteArray,strings_Contains.f t (⟨#[10]⟩:ByteArray)=some (decide ((10:UInt8) ∈ t.data.toList)):=by
  intro t
  unfold strings_Contains.f strings_Index.f
  rw [if_pos (show (⟨#[10]⟩:ByteArray).size=1 from rfl)]
  exact congrArg some (index_mem t.data.toList 10)
 unfold unified_plain.f strings_TrimSuffix.f stringslite_TrimSuffix.f
 by_cases h0:s.size=0
 ·have e:stringslite_HasSuffix.f s (⟨#[10]⟩:ByteArray)=some false:=by
   unfold stringslite_HasSuffix.f
   rw [if_neg (by show ¬ ((s.size:Int) ≥ ((1:Nat):Int));omega)]
  have hnil:s.data.toList=[]:=List.eq_nil_of_length_eq_zero (by omega)
  rw [e]
  simp only [Option.bind_some,Bool.false_eq_true,if_false,con,noNl,hnil,List.dropLast_nil,List.not_mem_nil,decide_false,Bool.not_false,not_false_eq_true,decide_true]
 ·have hw:wrap64 ((s.size:Int) - ((⟨#[10]⟩:ByteArray).size:Int))=((s.size - 1:Nat):Int):=by
   show wrap64 ((s.size:Int) - ((1:Nat):Int))=_
   unfold wrap64;omega
  rw [suffix_nl s h h0]
  simp only [Option.bind_some,hw]
  by_cases hc:closedL s.data.toList=true
  ·simp only [hc,if_true,if_pos (show (0:Int)≤((s.size - 1:Nat):Int) by omega),if_pos (show ((s.size - 1:Nat):Int)≤(s.size:Int) by omega),Option.bind_some,con,Int.toNat_natCast]
   have e:(s.extract 0 (s.size - 1)).data.toList=s.data.toList.dropLast:=by
    simp only [ByteArray.data_extract,Array.toList_extract,List.extract_eq_take_drop,List.drop_zero]
    rw [List.dropLast_eq_take,hlen,Nat.sub_zero]
   rw [e,noNl,decide_not]
  ·simp only [Bool.eq_false_iff.2 hc,Bool.false_eq_true,if_false,Option.bind_some,con]
   have hl:=last_get s (by omega)
   have e:s.data.toList=s.data.toList.dropLast++[s.data.toList[s.size - 1]'(by show s.size - 1<s.size;omega)]:=by
    have h5:=List.dropLast_concat_getLast (l:=s.data.toList) (by intro e;rw [e] at hlen;simp at hlen;omega)
    rw [List.getLast?_eq_some_getLast (by intro e;rw [e] at hlen;simp at hlen;omega)] at hl
    rw [Option.some.inj hl] at h5
    exact h5.symm
   have hne:s.data.toList[s.size - 1]'(by show s.size - 1<s.size;omega)≠10:=by
    intro e2
    apply hc
    unfold closedL
    rw [hl,e2]
    simp
   rw [noNl,← decide_not]
   congr 1
   apply decide_eq_decide.2
   constructor
   ·intro h1 h2;exact h1 (by rw [e];exact List.mem_append_left _ h2)
   ·intro h1 h2
    rw [e] at h2
    rcases List.mem_append.1 h2 with h2|h2
    ·exact h1 h2
    ·exact hne (List.mem_singleton.1 h2).symm
def bndH (x:S41):Bool:=decide (firstI x.f0 x.f1<2147483648∧x.f1<2147483648∧firstI x.f2 x.f3<2147483648∧x.f3<2147483648)
def canH (x:S41):Bool:=x.f4.all noNl && (rightL x.f0 x.f1 x.f2 x.f3 x.f4 && bndH x)
structure NumH (x:S41):Prop where
 a:-1099511627776≤x.f0∧x.f0≤1099511627776
 b:-1099511627776≤x.f1∧x.f1≤1099511627776
 c:-1099511627776≤x.f2∧x.f2≤1099511627776
 d:-1099511627776≤x.f3∧x.f3≤1099511627776
theorem first_some {a b:Int} (h0:-1099511627776≤a) (h1:a≤1099511627776):unified_first.f a b=some (firstI a b):=by
 unfold unified_first.f firstI
 split
 ·rw [w_in (by omega) (by omega)]
 ·rfl
theorem mx_lt (a b c:Int):mx a b<c ↔ a<c∧b<c:=by unfold mx;split<;>omega
theorem ucan_l0 (x:S41) (hx:NumH x) (hn:x.f4.length≤1099511627776) (hs:∀ s ∈ x.f4,s.size≤4611686018427387904):∀ d i,x.f4.length - i=d→i≤x.f4.length →
  Ev (fun k=>unified_can.l0 k x.f4 (x.f4.length:Int) (i:Int) x.f0 x.f1 x.f2 x.f3 x.f4) ((x.f4.drop i).all noNl && (rightL x.f0 x.f1 x.f2 x.f3 x.f4 && bndH x)):=by
 intro d
 induction d with
 | zero =>
  intro i hd hi
  refine Ev.step (fun _=>unified_can.l0.eq_2 ..) ?_
  simp only [if_neg (show ¬ (i:Int)<(x.f4.length:Int) by omega)]
  rw [List.drop_of_length_le (by omega),List.all_nil,Bool.true_and]
  have h:=HRight_ev x.f0 x.f1 x.f2 x.f3 x.f4 hn
  rw [right_same] at h
  refine Ev.bind h ?_
  by_cases hr:rightL x.f0 x.f1 x.f2 x.f3 x.f4=true
  ·simp only [hr,if_true,first_some hx.a.1 hx.a.2,first_some hx.c.1 hx.c.2,Option.bind_some,Bool.true_and]
   have e:decide ((mx (mx (mx (firstI x.f0 x.f1) x.f1) (firstI x.f2 x.f3)) x.f3)<2147483648)=bndH x:=by
    unfold bndH
    apply decide_eq_decide.2
    rw [mx_lt,mx_lt,mx_lt]
    constructor
    ·intro h;exact ⟨h.1.1.1,h.1.1.2,h.1.2,h.2⟩
    ·intro h;exact ⟨⟨⟨h.1,h.2.1⟩,h.2.2.1⟩,h.2.2.2⟩
   rw [e]
   exact Ev.now _
  ·simp only [Bool.eq_false_iff.2 hr,Bool.false_eq_true,if_false,Bool.false_and]
   exact Ev.now _
 | succ d ih =>
  intro i hd hi
  have h0:i<x.f4.length:=by omega
  refine Ev.step (fun _=>unified_can.l0.eq_2 ..) ?_
  simp only [if_pos (show (i:Int)<(x.f4.length:Int) by omega),if_pos (show (0:Int)≤(i:Int) by omega),rdS_at h0,plain_some _ (hs _ (List.getElem_mem h0)),Option.bind_some]
  rw [List.drop_eq_getElem_cons h0,List.all_cons]
  by_cases hp:noNl x.f4[i]=true
  ·simp only [hp,if_true,Bool.true_and,w_succ h0 (by omega)]
   exact ih (i+1) (by omega) (by omega)
  ·simp only [Bool.eq_false_iff.2 hp,Bool.false_eq_true,if_false,Bool.false_and]
   exact Ev.now _
theorem ucan_ev (x:S41) (hx:NumH x) (hn:x.f4.length≤1099511627776) (hs:∀ s ∈ x.f4,s.size≤4611686018427387904):Ev (fun k=>unified_can.f k x.f0 x.f1 x.f2 x.f3 x.f4) (canH x):=by
 have h:=ucan_l0 x hx hn hs _ 0 rfl (Nat.zero_le _)
 rw [List.drop_zero] at h
 exact h
end Go.Proofs.YtamojbfmphainaaDoor.Pr
-- shrunk
/-
What the document's Print's parts answer, in plain Lean; which lists are looked at.
-/
namespace Go.Proofs.YtamojbfmphainaaDoor.Pr
open Go.RowKit Go.Proofs.YtamojbfmphainaaDoorW.PrintWords Go.Proofs.YtamojbfmphainaaDoorW.PrintLast Go.Proofs.YtamojbfmphainaaDoorW.PrintMore
theorem firstI_lt (a b:Int):firstI a b<2147483648 ↔ (b > 0∧a<2147483647)∨(b≤0∧a<2147483648):=by unfold firstI;split<;>omega
end Go.Proofs.YtamojbfmphainaaDoor.Pr
-- shrunk
/-
unified.Parse.
-/
namespace Go.Proofs.YtamojbfmphainaaDoor.Pr
open Go.RowKit Go.Proofs.YtamojbfmphainaaDoorW.PrintWords Go.Proofs.YtamojbfmphainaaDoorW.PrintLast Go.Proofs.YtamojbfmphainaaDoorW.PrintMore
set_option maxRecDepth 100000 in
set_option maxHeartbeats 2000000 in
theorem clip_calls (A:Option Addr) (n c:Nat) (h:n≤c) (hn:n≤4611686018427387904) (w:World) :
  Calls Tryd.prog 33 #[.slice A n c] w fun e w'=>e=.returned (.slice A n n)∧w'=w:=by
 go_enter Tryd.func33,Tryd.ntmps33
 go_wp2
 go_ret
 exact ⟨rfl,rfl⟩
set_option maxRecDepth 100000 in
set_option maxHeartbeats 2000000 in
theorem next_new (w:World) :
  Calls Tryd.prog 31 #[.pointer (some ⟨w.heap.size,0,none⟩)] (w.alloc (.cells #[.slice none 0 0,.int .i64 0,.int .i64 0,.bool true,.nilFunc] 57 (0,0))) fun e w'=>e=.returned (.tuple #[])∧w'.heap[w.heap.size]?=some (.cells #[.slice none 0 0,.int .i64 0,.int .i64 0,.bool true,.func (.func 60) #[.pointer (some ⟨w.heap.size,0,none⟩)] #[]] 57 (0,0))∧Below w.heap.size w w':=by
 have hb:=blk_new w (.cells #[.slice none 0 0,.int .i64 0,.int .i64 0,.bool true,.nilFunc] 57 (0,0))
 have hbel:Below w.heap.size w (w.alloc (.cells #[.slice none 0 0,.int .i64 0,.int .i64 0,.bool true,.nilFunc] 57 (0,0))):=below_alloc (Below.refl _ _) _
 generalize w.alloc (.cells #[.slice none 0 0,.int .i64 0,.int .i64 0,.bool true,.nilFunc] 57 (0,0))=W at hb hbel ⊢
 have HB:=Aside0.mk hb
 have HL:=Aside0.mk hbel
 have hz1:W.cell? ⟨w.heap.size,1,none⟩=some (.int .i64 0):=(blk_cell hb 1).trans rfl
 have hz2:W.cell? ⟨w.heap.size,2,none⟩=some (.int .i64 0):=(blk_cell hb 2).trans rfl
 have hz4:W.cell? ⟨w.heap.size,4,none⟩=some .nilFunc:=(blk_cell hb 4).trans rfl
 have hzf:=blk_frozen hb 4
 clear hb hbel
 generalize hg:w.heap.size=g at *
 have HG:=Aside0.mk hg
 clear hg
 go_enter Tryd.func31,Tryd.ntmps31
 go_wp2
 go_end0
 have h1:=blk_put HB.out 4 (.func (.func 59) #[.pointer (some ⟨g,0,none⟩)] #[]) rfl
 have h2:=blk_put h1 4 (.func (.func 60) #[.pointer (some ⟨g,0,none⟩)] #[]) rfl
 have e:=HG.out
 subst e
 exact ⟨rfl,h2,below_set (below_set HL.out (Nat.le_refl _)) (Nat.le_refl _)⟩
def ParseEnd (s:ByteArray) (w:World) (e:Ending) (w':World):Prop:=∃ A c,e=.returned (.tuple #[.slice A (parseU s).1.length c,.int .i64 (parseU s).2.1,.int .i64 (parseU s).2.2])∧(parseU s).1.length≤c∧Kd.C k41 w' A (parseU s).1.length (parseU s).1∧Below w.heap.size w w'
theorem linesB_mem {s t:ByteArray} (h:t ∈ linesB s):0<t.size∧t.size≤s.size:=by
 rw [linesB_lns] at h
 obtain ⟨u,hu,rfl⟩:=List.mem_map.1 h
 have h1:=lns_ne _ u hu
 have h2:u.length≤s.data.toList.length:=by
  have h3:=(List.sublist_flatten_of_mem hu).length_le
  rwa [lns_flatten] at h3
 refine ⟨?_,?_⟩
 ·show 0<u.toArray.size
  rw [List.size_toArray];exact List.length_pos_iff.2 h1
 ·show u.toArray.size≤s.data.size
  rw [List.size_toArray,← Array.length_toList];exact h2
set_option maxRecDepth 100000 in
set_option maxHeartbeats 16000000 in
theorem parse_calls (s:ByteArray) (hs:s.size≤1073741824) (w:World) (hL:LaidU w):Calls Tryd.prog 12 #[.string s] w (ParseEnd s w):=by
 have HL:=Aside0.mk hL
 obtain ⟨L,hLL⟩:∃ L,L=linesB s:=⟨_,rfl⟩
 have HSP:=Aside0.mk (show lines_Split.f s=some L by rw [hLL];exact Split_some s (by omega))
 have HG:=Aside0.mk (show ∀ t ∈ L,0<t.size∧t.size≤s.size by rw [hLL];exact fun t h=>linesB_mem h)
 have HP:=Aside0.mk (show parseL L 0 ⟨[],0,0,true⟩=parseU s by rw [hLL];rfl)
 have hll:L.length≤1073741824:=by rw [hLL];have:=linesB_len s;omega
 have HS:=Aside0.mk hs
 clear hs hLL hL
 go_enter Tryd.func12,Tryd.ntmps12
 go_upto_region 4 with (first
  | (go_at_call 31;(with_reducible refine (next_new w).mono ?_);rintro e w1 ⟨rfl,h1,hb1⟩;have HX1:=Aside0.mk h1;have HB1:=Aside0.mk hb1;clear h1 hb1)
  | (go_at_call 16;(with_reducible refine (lines_Split.calls s L _ HSP.out).mono ?_);rintro e w2 ⟨v2,rfl,ho,hb⟩;obtain ⟨A2,c2,e2⟩:=Kd.R_slice ho;subst e2;have HX2:=Aside0.mk (show RBox w2 w.heap.size (.slice none 0 0) 0 0 true 60 [] w2 from ⟨blk_below HX1.out hb,Kd.S_nil _ _ _ _ _,Keep1.refl _ _⟩);have HRL:=Aside0.mk (Kd.R_types ho HX2.out.box (by intro q hq;simp [Kd.string,Kd.scalar] at hq;subst hq;decide));have HB2:=Aside0.mk (below_step HB1.out hb);clear ho hb))
 generalize hgg:w.heap.size=g at *
 have HGG:=Aside0.mk hgg
 clear hgg
 have FIN:=Aside0.mk (show ∀ W,Keep1 w2 g W→Below w.heap.size w W from fun W h=>Keep1.below (by have h_:=HB2.out;rw [← HGG.out] at h_;exact h_) h (by rw [HGG.out];exact Nat.le_refl _))
 go_upto_block 0 with (fail)
 have hi0:=Aside0.mk (show PInv s.size 0 ⟨[],0,0,true⟩ from ⟨Int.le_refl _,by decide,Int.le_refl _,by decide,Nat.le_refl _,fun h=>by rcases h with h|h|h<;>exact absurd h (by decide)⟩)
 go_wp2_with (fail)
 go_loopg [17] L.length (fun kq v17 wr=>∃ (k:Nat) (st:PS) (v:Value),v17=.int .i64 (k:Int)∧Aside0 (k≤L.length∧L.length≤kq+k)∧Aside0 (parseL (L.drop k) k st=parseU s)∧Aside0 (PInv s.size k st)∧Aside0 (RBox w2 g v st.an st.bn st.bare (nextF st.an st.bn) st.l wr))
 case atStart=>exact ⟨0,⟨[],0,0,true⟩,_,rfl,⟨by omega⟩,HP,hi0,HX2⟩
 case round =>
  clear HX2 HX1 HP hi0
  obtain ⟨k,st,v,rfl,HB,HQ,HI,HX⟩:=hrel
  by_cases hend:k=L.length
  ·as_aux_lemma =>
   have f2:decide (k<L.length)=false:=decide_eq_false (by omega)
   have HQ2:=Aside0.mk (show parseU s=if st.an > 0∨st.bn > 0 then ([],(k:Int)+1,2) else (st.l,0,0) by rw [← HQ.out,List.drop_of_length_le (by omega)];rfl)
   have z1:wr.cell? ⟨g,1,none⟩=some (.int .i64 st.an):=(blk_cell HX.out.box 1).trans rfl
   have z2:wr.cell? ⟨g,2,none⟩=some (.int .i64 st.bn):=(blk_cell HX.out.box 2).trans rfl
   obtain ⟨A,c,e0⟩:=Kd.S_slice HX.out.row
   subst e0
   have HRD:=Aside0.mk (Kd.S_reads' HX.out.row)
   have z0:wr.cell? ⟨g,0,none⟩=some (.slice A st.l.length c):=(blk_cell HX.out.box 0).trans rfl
   have hln:st.l.length≤1073741824:=by have:=HI.out.len;omega
   have HKL:=Aside0.mk hend
   clear hend
   by_cases c1:st.an > 0
   ·have c1b:decide (0<st.an)=true:=decide_eq_true c1
    have HU:=Aside0.mk (show parseU s=([],(k:Int)+1,2) by rw [HQ2.out,if_pos (.inl c1)])
    have kx:IntKind.i64.wrap ((L.length:Int)+1)=(L.length:Int)+1:=IntWalk.i64_in _ (by omega)
    clear c1 z0
    go_wp2
    go_ret3
    exact ⟨none,0,by rw [HU.out,HKL.out];rfl,by rw [HU.out];exact Nat.le_refl _,by rw [HU.out];exact Kd.C_nil _ _,FIN.out _ HX.out.bel⟩
   ·have c1b:decide (0<st.an)=false:=decide_eq_false c1
    by_cases c2:st.bn > 0
    ·have c2b:decide (0<st.bn)=true:=decide_eq_true c2
     have HU:=Aside0.mk (show parseU s=([],(k:Int)+1,2) by rw [HQ2.out,if_pos (.inr c2)])
     have kx:IntKind.i64.wrap ((L.length:Int)+1)=(L.length:Int)+1:=IntWalk.i64_in _ (by omega)
     clear c1 c2 z0
     go_wp2
     go_ret3
     exact ⟨none,0,by rw [HU.out,HKL.out];rfl,by rw [HU.out];exact Nat.le_refl _,by rw [HU.out];exact Kd.C_nil _ _,FIN.out _ HX.out.bel⟩
    ·have c2b:decide (0<st.bn)=false:=decide_eq_false c2
     have HU:=Aside0.mk (show parseU s=(st.l,0,0) by rw [HQ2.out,if_neg (fun h=>h.elim c1 c2)])
     clear c1 c2
     go_wp2_with (go_at_call 33;(with_reducible refine (clip_calls A st.l.length c HRD.out.2.1 (by omega) _).mono ?_);rintro e w4 ⟨rfl,rfl⟩)
     go_ret3
     exact ⟨A,st.l.length,by rw [HU.out];rfl,by rw [HU.out];exact Nat.le_refl _,by rw [HU.out];exact HRD.out.2.2,FIN.out _ HX.out.bel⟩
  ·have hxl:k<L.length:=by have:=HB.out;omega
   obtain ⟨gk',HGk⟩:∃ m,Aside0 (gk=m+1):=⟨gk - 1,⟨by have:=HB.out;omega⟩⟩
   have f2:decide (k<L.length)=true:=decide_eq_true hxl
   have hC:=(Kd.R_reads' (Kd.R_keep HRL.out HX.out.bel.1 (fun _ h=>h.2))).2.2
   obtain ⟨ad,ea,hw1⟩:=at_textA hC k hxl
   cases ea
   obtain ⟨t,ht⟩:∃ t,t=L[k]:=⟨_,rfl⟩
   rw [← ht] at hw1
   have HT:=Aside0.mk (show L.drop k=t :: L.drop (k+1) by rw [ht];exact List.drop_eq_getElem_cons hxl)
   have HTG:=Aside0.mk (show 0<t.size∧t.size≤s.size by rw [ht];exact HG.out _ (List.getElem_mem hxl))
   have HXL:=Aside0.mk hxl
   have kx:IntKind.i64.wrap ((k:Int)+1)=(k:Int)+1:=IntWalk.i64_in _ (by omega)
   clear hend ht hC
   by_cases c1:t=openB∧st.bare=false
   ·as_aux_lemma =>
    obtain ⟨m,x,hm,hx,hxk,hxg,hxne⟩:=HI.out.last (.inr (.inr c1.2))
    obtain ⟨q,hq⟩:∃ q,x.f4.length=q+1:=⟨x.f4.length - 1,by have:=List.length_pos_iff.2 (hxne c1.2);omega⟩
    have HST:=Aside0.mk (show stepP st t=some ⟨chopL st.l,st.an,st.bn,true⟩ by rw [stepP,if_pos c1])
    have HI2:=Aside0.mk (HI.out.step HTG.out.1 HTG.out.2 HST.out)
    have HQ3:=Aside0.mk (show parseL (L.drop (k+1)) (k+1) ⟨chopL st.l,st.an,st.bn,true⟩=parseU s by rw [← HQ.out,HT.out,parseL,HST.out])
    have HCL:=Aside0.mk (show chopL st.l=st.l.set m { x with f4:=x.f4.set q (chopB (rdOf ByteArray.empty x.f4 q)) } by rw [chopL,hm,Nat.add_sub_cancel,hx];show st.l.set m (chopH x)=_;rw [chopH,hq,Nat.add_sub_cancel])
    have CC:=Aside0.mk (cut_yes w2 g v st.an st.bn (nextF st.an st.bn) st.l m q x wr (c1.2 ▸ HX.out) hm hx hq (by have:=HI.out.len;omega) (by omega) (by
     have hqm:q<x.f4.length:=by omega
     rw [rdS_at hqm];have:=(hxg _ (List.getElem_mem hqm)).2.1;have:=HS.out;omega))
    obtain ⟨rfl,hbr⟩:=c1
    clear hm hx hxk hxg hxne hq hbr
    go_wp2_with (go_at_call 32;(with_reducible refine CC.out.mono ?_);rintro e w3 ⟨rfl,h3⟩;rw [← HCL.out] at h3;have HY:=Aside0.mk h3;clear h3)
    go_roundg gk'
    case measure=>have:=HGk.out;omega
    case rel=>exact ⟨k+1,⟨chopL st.l,st.an,st.bn,true⟩,v,by go_num,⟨by have:=HB.out;have:=HGk.out;have:=HXL.out;omega⟩,HQ3,HI2,HY⟩
   ·have CN:=Aside0.mk (cut_no w2 g v st.an st.bn st.bare (nextF st.an st.bn) st.l t wr HX.out (by
     by_cases e:t=openB
     ·right;cases hbr:st.bare with
      | true=>rfl
      | false=>exact absurd ⟨e,hbr⟩ c1
     ·exact .inl e))
    have HLW:=Aside0.mk (HL.out.below (FIN.out _ HX.out.bel))
    by_cases c2:st.an=0∧st.bn=0
    ·have HXH:=Aside0.mk (show RBox w2 g v st.an st.bn st.bare 60 st.l wr by have h_:=HX.out;rwa [nextF,if_pos c2] at h_)
     have z4:wr.cell? ⟨g,4,none⟩=some (.func (.func 60) #[.pointer (some ⟨g,0,none⟩)] #[]):=(blk_cell HXH.out.box 4).trans rfl
     have CH:=Aside0.mk (head_calls w2 g v st.an st.bn st.bare 60 st.l t wr HXH.out HLW.out (by have:=HTG.out.2;have:=HS.out;omega) (by have:=HI.out.len;omega))
     rcases hhd:headB t with _|hd
     ·as_aux_lemma =>
      have HST:=Aside0.mk (show stepP st t=none by rw [stepP,if_neg c1,if_pos c2,hhd];rfl)
      have HU:=Aside0.mk (show parseU s=([],(k:Int)+1,3) by rw [← HQ.out,HT.out,parseL,HST.out])
      have CH2:=Aside0.mk (show Calls Tryd.prog 60 #[.pointer (some ⟨g,0,none⟩),.string t] wr fun e w'=>e=.returned (.bool false)∧Keep1 w2 g w' from CH.out.mono fun e w' h=>⟨by rw [h.1,hhd];rfl,h.2.1⟩)
      clear c1 c2 hhd CH
      go_wp2_with (first
       | (go_at_call 32;(with_reducible refine CN.out.mono ?_);rintro e w3 ⟨rfl,rfl⟩)
       | (go_at_call 60;(with_reducible refine CH2.out.mono ?_);rintro e w4 ⟨rfl,h4⟩;have HK3:=Aside0.mk h4;clear h4))
      go_ret3
      exact ⟨none,0,by rw [HU.out];rfl,by rw [HU.out];exact Nat.le_refl _,by rw [HU.out];exact Kd.C_nil _ _,FIN.out _ HK3.out⟩
     ·as_aux_lemma =>
      have HST:=Aside0.mk (show stepP st t=some ⟨st.l++[hd],hd.f1,hd.f3,true⟩ by rw [stepP,if_neg c1,if_pos c2,hhd];rfl)
      have HI2:=Aside0.mk (HI.out.step HTG.out.1 HTG.out.2 HST.out)
      have HQ3:=Aside0.mk (show parseL (L.drop (k+1)) (k+1) ⟨st.l++[hd],hd.f1,hd.f3,true⟩=parseU s by rw [← HQ.out,HT.out,parseL,HST.out])
      have CH2:=Aside0.mk (show Calls Tryd.prog 60 #[.pointer (some ⟨g,0,none⟩),.string t] wr fun e w'=>e=.returned (.bool true)∧∃ v,RBox w2 g v hd.f1 hd.f3 true (nextF hd.f1 hd.f3) (st.l++[hd]) w' from CH.out.mono fun e w' h=>⟨by rw [h.1,hhd];rfl,h.2.2 hd hhd⟩)
      clear c1 c2 hhd CH
      go_wp2_with (first
       | (go_at_call 32;(with_reducible refine CN.out.mono ?_);rintro e w3 ⟨rfl,rfl⟩)
       | (go_at_call 60;(with_reducible refine CH2.out.mono ?_);rintro e w4 ⟨rfl,v4,h4⟩;have HY:=Aside0.mk h4;clear h4))
      go_roundg gk'
      case measure=>have:=HGk.out;omega
      case rel=>exact ⟨k+1,⟨st.l++[hd],hd.f1,hd.f3,true⟩,v4,by go_num,⟨by have:=HB.out;have:=HGk.out;have:=HXL.out;omega⟩,HQ3,HI2,HY⟩
    ·have HXH:=Aside0.mk (show RBox w2 g v st.an st.bn st.bare 59 st.l wr by have h_:=HX.out;rwa [nextF,if_neg c2] at h_)
     have z4:wr.cell? ⟨g,4,none⟩=some (.func (.func 59) #[.pointer (some ⟨g,0,none⟩)] #[]):=(blk_cell HXH.out.box 4).trans rfl
     obtain ⟨m,x,hm,hx,hxk,hxg,hxne⟩:=HI.out.last (by
      by_cases h0:st.an=0
      ·exact .inr (.inl fun hb0=>c2 ⟨h0,hb0⟩)
      ·exact .inl h0)
     have CH:=Aside0.mk (line_calls w2 g v st.an st.bn st.bare 59 st.l m x t (closedL t.data.toList) wr HXH.out hm hx (by have:=HI.out.len;omega) (by omega) (fun u hu=>(hxg u hu).1) HTG.out.1 HI.out.a0 (by have:=HI.out.a1;omega) HI.out.b0 (by have:=HI.out.b1;omega) (Closed_some t (by have:=HTG.out.2;have:=HS.out;omega)))
     have hsx:st.l[st.l.length - 1]?=some x:=by rw [hm,Nat.add_sub_cancel];exact hx
     by_cases c3:lineR (wentB x.f4) (closedL t.data.toList) (bt t 0) st.an st.bn=true
     ·as_aux_lemma =>
      obtain ⟨a,b,hst,_,_,_⟩:=lineR_some c3
      have HST:=Aside0.mk (show stepP st t=some ⟨addL st.l m t,a,b,false⟩ by rw [stepP,if_neg c1,if_neg c2,hsx];show (if lineR _ _ _ _ _=true then _ else _)=_;rw [if_pos c3,hst,hm,Nat.add_sub_cancel];rfl)
      have HI2:=Aside0.mk (HI.out.step HTG.out.1 HTG.out.2 HST.out)
      have HQ3:=Aside0.mk (show parseL (L.drop (k+1)) (k+1) ⟨addL st.l m t,a,b,false⟩=parseU s by rw [← HQ.out,HT.out,parseL,HST.out])
      have CH2:=Aside0.mk (show Calls Tryd.prog 59 #[.pointer (some ⟨g,0,none⟩),.string t] wr fun e w'=>e=.returned (.bool true)∧∃ v,RBox w2 g v a b false (nextF a b) (addL st.l m t) w' from CH.out.mono fun e w' h=>⟨by rw [h.1,c3],h.2.2 a b hst⟩)
      clear c1 c2 c3 hst CH hm hx hxk hxg hxne hsx
      go_wp2_with (first
       | (go_at_call 32;(with_reducible refine CN.out.mono ?_);rintro e w3 ⟨rfl,rfl⟩)
       | (go_at_call 59;(with_reducible refine CH2.out.mono ?_);rintro e w4 ⟨rfl,v4,h4⟩;have HY:=Aside0.mk h4;clear h4))
      go_roundg gk'
      case measure=>have:=HGk.out;omega
      case rel=>exact ⟨k+1,⟨addL st.l m t,a,b,false⟩,v4,by go_num,⟨by have:=HB.out;have:=HGk.out;have:=HXL.out;omega⟩,HQ3,HI2,HY⟩
     ·as_aux_lemma =>
      have HST:=Aside0.mk (show stepP st t=none by rw [stepP,if_neg c1,if_neg c2,hsx];show (if lineR _ _ _ _ _=true then _ else _)=_;rw [if_neg c3])
      have HU:=Aside0.mk (show parseU s=([],(k:Int)+1,3) by rw [← HQ.out,HT.out,parseL,HST.out])
      have CH2:=Aside0.mk (show Calls Tryd.prog 59 #[.pointer (some ⟨g,0,none⟩),.string t] wr fun e w'=>e=.returned (.bool false)∧Keep1 w2 g w' from CH.out.mono fun e w' h=>⟨by rw [h.1,Bool.eq_false_iff.2 c3],h.2.1⟩)
      clear c1 c2 c3 CH hm hx hxk hxg hxne hsx
      go_wp2_with (first
       | (go_at_call 32;(with_reducible refine CN.out.mono ?_);rintro e w3 ⟨rfl,rfl⟩)
       | (go_at_call 59;(with_reducible refine CH2.out.mono ?_);rintro e w4 ⟨rfl,h4⟩;have HK3:=Aside0.mk h4;clear h4))
      go_ret3
      exact ⟨none,0,by rw [HU.out];rfl,by rw [HU.out];exact Nat.le_refl _,by rw [HU.out];exact Kd.C_nil _ _,FIN.out _ HK3.out⟩
end Go.Proofs.YtamojbfmphainaaDoor.Pr
-- shrunk
/-
Hunks as lines, in plain Lean: what is printed is made of lines; a head that is printed is read again.
-/
namespace Go.Proofs.YtamojbfmphainaaDoor.Pr
open Go.RowKit Go.Proofs.YtamojbfmphainaaDoorW.PrintWords Go.Proofs.YtamojbfmphainaaDoorW.PrintLast Go.Proofs.YtamojbfmphainaaDoorW.PrintMore
theorem lns_one {x:List UInt8} (h:¬ (10:UInt8) ∈ x):lns (x++[10])=[x++[10]]:=by
 induction x with
 | nil=>simp [lns]
 | cons b x ih =>
  have hb:b≠10:=fun e=>h (e ▸ List.mem_cons_self)
  rw [List.cons_append,lns_no hb,ih (fun m=>h (List.mem_cons_of_mem _ m))]
  rfl
def IsLn (t:ByteArray):Prop:=∃ x,t.data.toList=x++[10]∧¬ (10:UInt8) ∈ x
theorem IsLn.closed {t:ByteArray} (h:IsLn t):closedL t.data.toList=true:=by
 obtain ⟨x,e,_⟩:=h
 rw [e,closedL];simp
def bytesL (L:List ByteArray):List UInt8:=L.flatMap (·.data.toList)
theorem bytesL_append (a b:List ByteArray):bytesL (a++b)=bytesL a++bytesL b:=by unfold bytesL;rw [List.flatMap_append]
theorem bytesL_cons (t:ByteArray) (b:List ByteArray):bytesL (t :: b)=t.data.toList++bytesL b:=rfl
theorem lns_lines (r:List UInt8):∀ (L:List ByteArray),(∀ t ∈ L,IsLn t)→lns (bytesL L++r)=L.map (·.data.toList)++lns r
 | [],_=>rfl
 | t :: L,h=>by
  have ht:=h t List.mem_cons_self
  rw [bytesL_cons,List.append_assoc,lns_append _ _ ht.closed,lns_lines r L (fun u hu=>h u (List.mem_cons_of_mem _ hu))]
  obtain ⟨x,e,hx⟩:=ht
  show lns t.data.toList++_=[t.data.toList]++_++_
  rw [e,lns_one hx]
  rfl
theorem bs_of (t:ByteArray):bs t.data.toList=t:=rfl
theorem linesB_told (L:List ByteArray) (h:∀ t ∈ L,IsLn t) (s:ByteArray) (hs:s.data.toList=bytesL L):linesB s=L:=by
 rw [linesB_lns,hs,← List.append_nil (bytesL L),lns_lines [] L h,List.map_append,List.map_map]
 have e:(bs ∘ fun t:ByteArray=>t.data.toList)=id:=funext bs_of
 rw [e,List.map_id]
 exact List.append_nil _
def bodyT:List ByteArray→List ByteArray
 | []=>[]
 | s :: r=>(if closedL s.data.toList=true then [s] else [s++(⟨#[10]⟩:ByteArray),openB])++bodyT r
def toldH (x:Hk):List ByteArray:=headOf x :: bodyT x.f4
def toldL (l:List Hk):List ByteArray:=l.flatMap toldH
theorem lineOf_bytes (s:ByteArray):(lineOf s).data.toList=bytesL (if closedL s.data.toList=true then [s] else [s++(⟨#[10]⟩:ByteArray),openB]):=by
 unfold lineOf
 split
 ·simp [bytesL]
 ·simp only [bytesL,List.flatMap_cons,List.flatMap_nil,List.append_nil,ByteArray.data_append,Array.toList_append,List.append_assoc]
  rfl
theorem body_bytes:∀ (r:List ByteArray) (out:ByteArray),(bodyOf r out).data.toList=out.data.toList++bytesL (bodyT r)
 | [],out=>by simp [bodyOf,bodyT,bytesL]
 | s :: r,out=>by
  rw [bodyOf,body_bytes r,bodyT,bytesL_append,ByteArray.data_append,Array.toList_append,lineOf_bytes,List.append_assoc]
theorem print_bytes (can:Hk→Bool):∀ (l:List Hk) (out:ByteArray),(∀ x ∈ l,can x=true)→(printL can l out).data.toList=out.data.toList++bytesL (toldL l)
 | [],out,_=>by simp [printL,toldL,bytesL]
 | x :: r,out,h=>by
  have e:toldL (x :: r)=headOf x :: (bodyT x.f4++toldL r):=rfl
  rw [printL,if_pos (h x List.mem_cons_self),print_bytes can r _ (fun y hy=>h y (List.mem_cons_of_mem _ hy)),body_bytes,e,bytesL_cons,bytesL_append,ByteArray.data_append,Array.toList_append]
  simp only [List.append_assoc]
theorem dec_range:∀ (u:Nat),∀ c ∈ Lib.decDigits u,48≤c.toNat∧c.toNat≤57:=by
 intro u
 induction u using Nat.strongRecOn with
 | ind u ih =>
  intro c hc
  rw [Lib.decDigits] at hc
  split at hc
  ·obtain rfl:=List.mem_singleton.1 hc
   rw [UInt8.toNat_ofNat'];omega
  ·rcases List.mem_append.1 hc with hc|hc
   ·exact ih (u / 10) (by omega) c hc
   ·obtain rfl:=List.mem_singleton.1 hc
    rw [UInt8.toNat_ofNat'];omega
theorem parse_append:∀ (l:List UInt8) (acc v:Nat) (c:UInt8),Lib.parseUint10 acc l=.ok v→v<1844674407370955161→48≤c.toNat∧c.toNat≤57→Lib.parseUint10 acc (l++[c])=.ok (v * 10+(c.toNat - 48))
 | [],acc,v,c,h,hv,hc=>by
  rw [Lib.parseUint10] at h
  injection h with h
  subst h
  rw [List.nil_append,Lib.parseUint10,if_pos hc,if_neg (by omega),if_neg (by omega),Lib.parseUint10]
 | b :: l,acc,v,c,h,hv,hc=>by
  rw [Lib.parseUint10] at h
  rw [List.cons_append,Lib.parseUint10]
  split at h
  ·rename_i h1
   split at h
   ·cases h
   ·rename_i h2
    split at h
    ·cases h
    ·rename_i h3
     rw [if_pos h1,if_neg h2,if_neg h3]
     exact parse_append l _ v c h hv hc
  ·cases h
theorem parse_dec:∀ (u:Nat),u<1844674407370955161→Lib.parseUint10 0 (Lib.decDigits u)=.ok u:=by
 intro u
 induction u using Nat.strongRecOn with
 | ind u ih =>
  intro hu
  by_cases h:u<10
  ·rw [Lib.decDigits_one h,Lib.parseUint10,if_pos (by rw [UInt8.toNat_ofNat'];omega),if_neg (by omega),if_neg (by rw [UInt8.toNat_ofNat'];omega),Lib.parseUint10,UInt8.toNat_ofNat']
   congr 1;omega
  ·rw [Lib.decDigits,dif_neg h,parse_append _ _ _ _ (ih (u / 10) (by omega) (by omega)) (by omega) (by rw [UInt8.toNat_ofNat'];omega),UInt8.toNat_ofNat']
   congr 1;omega
theorem dec_ne (u:Nat):Lib.decDigits u≠[]:=by
 rw [Lib.decDigits];split<;>simp
theorem atoi_dec (u:Nat) (hu:u<2147483648):Lib.atoiAll (Lib.decDigits u)=.ok (u:Int):=by
 have hp:=parse_dec u (by omega)
 have hr:=dec_range u
 have hne:=dec_ne u
 generalize Lib.decDigits u=d at hp hr hne
 rcases d with _|⟨c,r⟩
 ·exact absurd rfl hne
 ·have hc:=hr c List.mem_cons_self
  unfold Lib.atoiAll Lib.parseMag
  have n43:¬ c.toNat=43:=by omega
  have n45:¬ c.toNat=45:=by omega
  simp only [n43,n45,or_self,if_false,reduceCtorEq,hp,not_false_eq_true,true_and,false_and]
  rw [if_neg (by omega)]
theorem numB_itoa (n:Int) (h0:0≤n) (h1:n<2147483648):numB (itoaB n)=some n:=by
 obtain ⟨u,rfl⟩:∃ u:Nat,n=u:=⟨n.toNat,by omega⟩
 have e:(itoaB (u:Int)).data.toList=Lib.decDigits u:=by
  unfold itoaB;rw [Lib.itoa_nonneg]
 unfold numB
 rw [e,atoi_dec u (by omega)]
 simp only [h0,h1,and_self,if_true]
theorem itoaB_range (n:Int) (h0:0≤n):∀ c ∈ (itoaB n).data.toList,48≤c.toNat∧c.toNat≤57:=by
 obtain ⟨u,rfl⟩:∃ u:Nat,n=u:=⟨n.toNat,by omega⟩
 have e:(itoaB (u:Int)).data.toList=Lib.decDigits u:=by
  unfold itoaB;rw [Lib.itoa_nonneg]
 rw [e];exact dec_range u
theorem cut_at (a b sep:List UInt8) (c:UInt8) (q:List UInt8) (hs:sep=c :: q) (ha:¬ c ∈ a):Lib.cut (a++sep++b) sep=(a,b,true):=by
 have hi:Lib.index (a++sep++b) sep=(a.length:Int):=by
  refine Lib.index_first (by simp) ?_ (fun j hj=>?_)
  ·unfold Lib.occAt
   rw [List.append_assoc,List.drop_left,List.isPrefixOf_iff_prefix]
   exact List.prefix_append _ _
  ·unfold Lib.occAt
   rw [List.append_assoc,List.drop_append_of_le_length (by omega),hs]
   rcases hd:a.drop j with _|⟨d,e⟩
   ·have:=congrArg List.length hd;rw [List.length_drop] at this;simp at this;omega
   ·have hm:d ∈ a:=List.mem_of_mem_drop (i:=j) (by rw [hd];exact List.mem_cons_self)
    have hne:c≠d:=fun e2=>ha (e2 ▸ hm)
    simp [List.isPrefixOf,hne]
 unfold Lib.cut
 rw [hi,if_pos (by omega)]
 simp only [Int.toNat_natCast,List.append_assoc]
 rw [List.take_left,← List.append_assoc,← List.length_append,List.drop_left]
theorem sideB_from (a b:Int) (h0:0≤a) (h1:firstI a b<2147483648) (h2:0≤b) (h3:b<2147483648):sideB (fromB a b)=some (a,b):=by
 have hf:0≤firstI a b:=by unfold firstI;split<;>omega
 have e:(fromB a b).data.toList=(itoaB (firstI a b)).data.toList++[44]++(itoaB b).data.toList:=by
  unfold fromB;simp only [ByteArray.data_append,Array.toList_append]
 have hc:=cut_at (itoaB (firstI a b)).data.toList (itoaB b).data.toList [44] 44 [] rfl (fun h=>by have:=itoaB_range _ hf _ h;have e4:(44:UInt8).toNat=44:=rfl;omega)
 rw [← e] at hc
 unfold sideB cutIs cutA cutC
 rw [hc]
 simp only [if_true]
 rw [show (⟨(itoaB (firstI a b)).data.toList.toArray⟩:ByteArray)=itoaB (firstI a b) from rfl,show (⟨(itoaB b).data.toList.toArray⟩:ByteArray)=itoaB b from rfl,numB_itoa _ hf h1,numB_itoa _ h2 h3]
 simp only
 rw [if_neg (by unfold firstI;split<;>omega)]
 congr 1
 unfold firstI
 split<;>simp<;>omega
theorem fromB_no (a b:Int) (h0:0≤a) (h2:0≤b) (c:UInt8) (hc:c.toNat<44):¬ c ∈ (fromB a b).data.toList:=by
 have hf:0≤firstI a b:=by unfold firstI;split<;>omega
 have e:(fromB a b).data.toList=(itoaB (firstI a b)).data.toList++[44]++(itoaB b).data.toList:=by
  unfold fromB;simp only [ByteArray.data_append,Array.toList_append]
 rw [e]
 intro h
 rcases List.mem_append.1 h with h|h
 ·rcases List.mem_append.1 h with h|h
  ·have:=itoaB_range _ hf _ h;omega
  ·obtain rfl:=List.mem_singleton.1 h;exact absurd hc (by decide)
 ·have:=itoaB_range _ h2 _ h;omega
theorem pre_at (p r:List UInt8):Lib.hasPrefix (p++r) p=true∧Lib.trimPrefix (p++r) p=r:=by
 have h:Lib.hasPrefix (p++r) p=true:=by unfold Lib.hasPrefix;rw [List.isPrefixOf_iff_prefix];exact List.prefix_append _ _
 exact ⟨h,by unfold Lib.trimPrefix;rw [if_pos h,List.drop_left]⟩
theorem suf_at (r p:List UInt8):Lib.hasSuffix (r++p) p=true∧Lib.trimSuffix (r++p) p=r:=by
 have h:Lib.hasSuffix (r++p) p=true:=by unfold Lib.hasSuffix;rw [List.isSuffixOf_iff_suffix];exact List.suffix_append _ _
 exact ⟨h,by unfold Lib.trimSuffix;rw [if_pos h,List.length_append,Nat.add_sub_cancel,List.take_left]⟩
structure HeadOk (x:Hk):Prop where
 a0:0≤x.f0
 a1:firstI x.f0 x.f1<2147483648
 b0:0≤x.f1
 b1:x.f1<2147483648
 c0:0≤x.f2
 c1:firstI x.f2 x.f3<2147483648
 d0:0≤x.f3
 d1:x.f3<2147483648
theorem headOf_bytes (x:Hk):(headOf x).data.toList=[64,64,32,45]++(((fromB x.f0 x.f1).data.toList++[32,43]++(fromB x.f2 x.f3).data.toList)++[32,64,64,10]):=by
 unfold headOf
 simp only [ByteArray.data_append,Array.toList_append,List.append_assoc]
 rfl
theorem head_at (x:Hk) (h:HeadOk x):headB (headOf x)=some ⟨x.f0,x.f1,x.f2,x.f3,[]⟩:=by
 obtain ⟨p1,p2⟩:=pre_at [64,64,32,45] (((fromB x.f0 x.f1).data.toList++[32,43]++(fromB x.f2 x.f3).data.toList)++[32,64,64,10])
 obtain ⟨s1,s2⟩:=suf_at ((fromB x.f0 x.f1).data.toList++[32,43]++(fromB x.f2 x.f3).data.toList) [32,64,64,10]
 have hc:=cut_at (fromB x.f0 x.f1).data.toList (fromB x.f2 x.f3).data.toList [32,43] 32 [43] rfl (fromB_no _ _ h.a0 h.b0 32 (by decide))
 rw [← headOf_bytes] at p1 p2
 have e1:(preB (headOf x) [64,64,32,45]).data.toList=(fromB x.f0 x.f1).data.toList++[32,43]++(fromB x.f2 x.f3).data.toList++[32,64,64,10]:=p2
 have e2:(headT (headOf x)).data.toList=(fromB x.f0 x.f1).data.toList++[32,43]++(fromB x.f2 x.f3).data.toList:=by
  unfold headT sufB
  show Lib.trimSuffix _ _=_
  rw [e1,s2]
 unfold headB cutIs cutA cutC
 rw [e1,e2,hc,if_pos ⟨p1,s1,rfl⟩]
 show (match sideB (fromB x.f0 x.f1),sideB (fromB x.f2 x.f3) with|some p,some q=>some (⟨p.1,p.2,q.1,q.2,[]⟩:Hk)|_,_=>none)=_
 rw [sideB_from _ _ h.a0 h.a1 h.b0 h.b1,sideB_from _ _ h.c0 h.c1 h.d0 h.d1]
theorem head_line (x:Hk) (h:HeadOk x):IsLn (headOf x):=by
 refine ⟨[64,64,32,45]++(((fromB x.f0 x.f1).data.toList++[32,43]++(fromB x.f2 x.f3).data.toList)++[32,64,64]),by rw [headOf_bytes];simp,?_⟩
 intro hm
 simp only [List.mem_append] at hm
 rcases hm with hm|((hm|hm)|hm)|hm
 ·exact absurd hm (by decide)
 ·exact fromB_no _ _ h.a0 h.b0 10 (by decide) hm
 ·exact absurd hm (by decide)
 ·exact fromB_no _ _ h.c0 h.d0 10 (by decide) hm
 ·exact absurd hm (by decide)
theorem canH_ok {x:Hk} (h:canH x=true):HeadOk x∧okL false x.f4=true∧x.f1=manyL 45 x.f4∧x.f3=manyL 43 x.f4∧∀ s ∈ x.f4,noNl s=true:=by
 unfold canH bndH at h
 rw [Bool.and_eq_true,Bool.and_eq_true,decide_eq_true_eq,List.all_eq_true] at h
 obtain ⟨h1,h2,h3,h4,h5,h6⟩:=h
 obtain ⟨r1,r2,r3,r4,r5⟩:=of_decide_eq_true h2
 exact ⟨⟨r2,h3,by omega,h4,r3,h5,by omega,h6⟩,r1,r4,r5,h1⟩
end Go.Proofs.YtamojbfmphainaaDoor.Pr
-- shrunk
/-
What is printed is parsed, in plain Lean.
-/
namespace Go.Proofs.YtamojbfmphainaaDoor.Pr
open Go.RowKit Go.Proofs.YtamojbfmphainaaDoorW.PrintWords Go.Proofs.YtamojbfmphainaaDoorW.PrintLast Go.Proofs.YtamojbfmphainaaDoorW.PrintMore
theorem bt_head (s:ByteArray) (c:UInt8) (r:List UInt8) (h:s.data.toList=c :: r):bt s 0=(c.toNat:Int):=by
 have hs:0<s.size:=by
  have e:s.data.toList.length=s.size:=rfl
  rw [h] at e;simp at e;omega
 unfold bt
 rw [dif_pos (show (0:Int).toNat<s.size from hs)]
 have e:s[(0:Int).toNat]'hs=s.data.toList[0]'(hs):=rfl
 rw [e]
 congr 1
 congr 1
 simp [h]
theorem bt_app (s t:ByteArray) (hs:0<s.size):bt (s++t) 0=bt s 0:=by
 have e:s.data.toList.length=s.size:=rfl
 rcases h:s.data.toList with _|⟨c,r⟩
 ·rw [h] at e;simp at e;omega
 ·rw [bt_head s c r h,bt_head (s++t) c (r++t.data.toList) (by rw [ByteArray.data_append,Array.toList_append,h];rfl)]
theorem bt_openB:bt openB 0=92:=bt_head openB 92 _ rfl
theorem chop_nl (s:ByteArray):chopB (s++(⟨#[10]⟩:ByteArray))=s:=by
 unfold chopB
 rw [ByteArray.data_append,Array.toList_append,(suf_at s.data.toList [10]).2]
theorem last_at (l:List Hk) (y:Hk):(l++[y])[(l++[y]).length - 1]?=some y:=by simp
theorem set_at (l:List Hk) (y z:Hk):(l++[y]).set ((l++[y]).length - 1) z=l++[z]:=by
 rw [List.length_append,List.length_singleton,Nat.add_sub_cancel,List.set_append_right _ _ (Nat.le_refl _),Nat.sub_self];rfl
theorem line_step (l:List Hk) (y:Hk) (an bn an' bn':Int) (bare:Bool) (t:ByteArray) (hc:closedL t.data.toList=true) (ha:0≤an') (hb:0≤bn') (hw:bt t 0=45→wentB y.f4=false)
  (hs:(bt t 0=32∧an=an'+1∧bn=bn'+1)∨(bt t 0=45∧an=an'+1∧bn=bn')∨(bt t 0=43∧an=an'∧bn=bn'+1)) :
  stepP ⟨l++[y],an,bn,bare⟩ t=some ⟨l++[{ y with f4:=y.f4++[t] }],an',bn',false⟩:=by
 have hne:t≠openB:=by
  rintro rfl
  rw [bt_openB] at hs
  omega
 have hst:stepL (wentB y.f4) (bt t 0) an bn=some (an',bn'):=by
  unfold stepL
  rcases hs with ⟨h,h1,h2⟩|⟨h,h1,h2⟩|⟨h,h1,h2⟩
  ·rw [if_pos h,h1,h2];congr 1;simp
  ·rw [hw h,h,if_neg (by decide),if_pos rfl,h1,h2];simp
  ·rw [h,if_neg (by decide),if_neg (by decide),if_pos rfl,h1,h2];simp
 have hl:lineR (wentB y.f4) (closedL t.data.toList) (bt t 0) an bn=true:=by
  unfold lineR
  rw [hst,hc]
  simp [ha,hb]
 unfold stepP
 rw [if_neg (fun h=>hne h.1)]
 simp only
 rw [if_neg (show ¬ (an=0∧bn=0) by omega),last_at]
 simp only [hl,if_true,hst,Option.map_some]
 unfold addL
 rw [last_at]
 simp only
 rw [set_at]
theorem open_step (l:List Hk) (y:Hk) (d:List ByteArray) (s:ByteArray) (an bn:Int) (hy:y.f4=d++[s++(⟨#[10]⟩:ByteArray)]) :
  stepP ⟨l++[y],an,bn,false⟩ openB=some ⟨l++[{ y with f4:=d++[s] }],an,bn,true⟩:=by
 unfold stepP
 rw [if_pos ⟨rfl,rfl⟩]
 simp only
 unfold chopL
 rw [last_at]
 simp only
 rw [set_at]
 unfold chopH
 have e:y.f4.length - 1=d.length:=by rw [hy];simp
 have e2:rdOf ByteArray.empty y.f4 ((d.length:Nat):Int)=s++(⟨#[10]⟩:ByteArray):=by
  rw [rdS_at (by rw [hy];simp)]
  simp [hy]
 rw [e,e2,chop_nl,hy,List.set_append_right _ _ (Nat.le_refl _),Nat.sub_self]
 rfl
theorem went_snoc (d:List ByteArray) (s:ByteArray):wentB (d++[s])=decide (bt s 0=43):=by
 unfold wentB
 rw [List.getLast?_append]
 simp only [List.getLast?_singleton,Option.some_or]
 rw [Bool.eq_iff_iff,beq_iff_eq,decide_eq_true_iff]
theorem parseL_step {st st':PS} {t:ByteArray} (r:List ByteArray) (i:Nat) (h:stepP st t=some st'):parseL (t :: r) i st=parseL r (i+1) st':=by
 rw [parseL,h]
theorem fold_body (l:List Hk) (x:Hk) (rest:List ByteArray):∀ (rem done:List ByteArray) (bare:Bool) (i:Nat),okL (wentB done) rem=true →
  ∃ b',parseL (bodyT rem++rest) i ⟨l++[{ x with f4:=done }],(manyL 45 rem:Int),(manyL 43 rem:Int),bare⟩=parseL rest (i+(bodyT rem).length) ⟨l++[{ x with f4:=done++rem }],0,0,b'⟩
 | [],done,bare,i,_=>⟨bare,by simp [bodyT,manyL]⟩
 | s :: rem,done,bare,i,h=>by
  rw [okL,Bool.and_eq_true,decide_eq_true_eq] at h
  obtain ⟨⟨h0,hsg,hcm⟩,hrem⟩:=h
  rw [← went_snoc done s] at hrem
  have hw:bt s 0=45→wentB done=false:=fun e=>Bool.eq_false_iff.2 (fun e2=>hcm ⟨e,e2⟩)
  have e45:((manyL 45 (s :: rem):Nat):Int)=(if bt s 0=32∨bt s 0=45 then 1 else 0)+(manyL 45 rem:Nat):=by
   rw [manyL];simp only [h0,true_and];split<;>omega
  have e43:((manyL 43 (s :: rem):Nat):Int)=(if bt s 0=32∨bt s 0=43 then 1 else 0)+(manyL 43 rem:Nat):=by
   rw [manyL];simp only [h0,true_and];split<;>omega
  have hs:(bt s 0=32∧((manyL 45 (s :: rem):Nat):Int)=(manyL 45 rem:Nat)+1∧((manyL 43 (s :: rem):Nat):Int)=(manyL 43 rem:Nat)+1)∨(bt s 0=45∧((manyL 45 (s :: rem):Nat):Int)=(manyL 45 rem:Nat)+1∧((manyL 43 (s :: rem):Nat):Int)=(manyL 43 rem:Nat))∨(bt s 0=43∧((manyL 45 (s :: rem):Nat):Int)=(manyL 45 rem:Nat)∧((manyL 43 (s :: rem):Nat):Int)=(manyL 43 rem:Nat)+1):=by
   rw [e45,e43]
   rcases hsg with e|e|e<;>rw [e]<;>simp<;>omega
  rw [bodyT]
  by_cases hc:closedL s.data.toList=true
  ·rw [if_pos hc]
   have hst:=line_step l { x with f4:=done } _ _ ((manyL 45 rem:Nat):Int) ((manyL 43 rem:Nat):Int) bare s hc (by omega) (by omega) hw hs
   obtain ⟨b',ih⟩:=fold_body l x rest rem (done++[s]) false (i+1) hrem
   refine ⟨b',?_⟩
   show parseL (s :: (bodyT rem++rest)) i _=_
   rw [parseL_step _ _ hst,ih,List.append_assoc]
   congr 1
   show i+1+_=i+([s]++bodyT rem).length
   rw [List.length_append,List.length_singleton];omega
  ·rw [if_neg hc]
   have b0:bt (s++(⟨#[10]⟩:ByteArray)) 0=bt s 0:=bt_app _ _ h0
   have hst:=line_step l { x with f4:=done } _ _ ((manyL 45 rem:Nat):Int) ((manyL 43 rem:Nat):Int) bare (s++(⟨#[10]⟩:ByteArray)) (by rw [ByteArray.data_append,Array.toList_append,closedL];simp) (by omega) (by omega) (by rw [b0];exact hw) (by rw [b0];exact hs)
   have hop:=open_step l { x with f4:=done++[s++(⟨#[10]⟩:ByteArray)] } done s (manyL 45 rem:Int) (manyL 43 rem:Int) rfl
   obtain ⟨b',ih⟩:=fold_body l x rest rem (done++[s]) true (i+1+1) hrem
   refine ⟨b',?_⟩
   show parseL ((s++(⟨#[10]⟩:ByteArray)) :: openB :: (bodyT rem++rest)) i _=_
   rw [parseL_step _ _ hst,parseL_step _ _ hop,ih,List.append_assoc]
   congr 1
   show i+1+1+_=i+([s++(⟨#[10]⟩:ByteArray),openB]++bodyT rem).length
   rw [List.length_append];show _=i+(2+_);omega
theorem headOf_ne (x:Hk):headOf x≠openB:=by
 intro e
 have h:(headOf x).data.toList=openB.data.toList:=by rw [e]
 rw [headOf_bytes] at h
 exact absurd (List.cons.inj h).1 (by decide)
theorem head_step (l:List Hk) (x:Hk) (b:Bool) (h:HeadOk x):stepP ⟨l,0,0,b⟩ (headOf x)=some ⟨l++[{ x with f4:=[] }],x.f1,x.f3,true⟩:=by
 unfold stepP
 rw [if_neg (fun h=>headOf_ne x h.1),if_pos ⟨rfl,rfl⟩,head_at x h]
 rfl
theorem fold_hunk (l:List Hk) (x:Hk) (rest:List ByteArray) (b:Bool) (i:Nat) (h:canH x=true):∃ b',parseL (toldH x++rest) i ⟨l,0,0,b⟩=parseL rest (i+(toldH x).length) ⟨l++[x],0,0,b'⟩:=by
 obtain ⟨ho,hk,e1,e3,hn⟩:=canH_ok h
 obtain ⟨b',ih⟩:=fold_body l x rest x.f4 [] true (i+1) hk
 refine ⟨b',?_⟩
 show parseL (headOf x :: (bodyT x.f4++rest)) i _=_
 have h2:(⟨l++[{ x with f4:=[] }],x.f1,x.f3,true⟩:PS)=⟨l++[{ x with f4:=[] }],((manyL 45 x.f4:Nat):Int),((manyL 43 x.f4:Nat):Int),true⟩:=by
  rw [PS.mk.injEq];exact ⟨rfl,e1,e3,rfl⟩
 rw [parseL_step _ _ (head_step l x b ho),h2,ih,List.nil_append]
 congr 1
 show i+1+_=i+((bodyT x.f4).length+1)
 omega
theorem fold_list (rest:List ByteArray):∀ (l l0:List Hk) (b:Bool) (i:Nat),(∀ x ∈ l,canH x=true)→∃ b',parseL (toldL l++rest) i ⟨l0,0,0,b⟩=parseL rest (i+(toldL l).length) ⟨l0++l,0,0,b'⟩
 | [],l0,b,i,_=>⟨b,by simp [toldL]⟩
 | x :: l,l0,b,i,h=>by
  obtain ⟨b1,h1⟩:=fold_hunk l0 x (toldL l++rest) b i (h x List.mem_cons_self)
  obtain ⟨b2,h2⟩:=fold_list rest l (l0++[x]) b1 (i+(toldH x).length) (fun y hy=>h y (List.mem_cons_of_mem _ hy))
  refine ⟨b2,?_⟩
  have e:toldL (x :: l)=toldH x++toldL l:=rfl
  rw [e,List.append_assoc,h1,h2,List.append_assoc,List.length_append,Nat.add_assoc]
  rfl
theorem body_lines:∀ (r:List ByteArray) (came:Bool),okL came r=true→(∀ s ∈ r,noNl s=true)→∀ t ∈ bodyT r,IsLn t
 | [],_,_,_=>fun t ht=>by cases ht
 | s :: r,came,h,hn=>fun t ht=>by
  rw [okL,Bool.and_eq_true,decide_eq_true_eq] at h
  obtain ⟨⟨h0,-,-⟩,hrem⟩:=h
  have hlen:s.data.toList.length=s.size:=rfl
  have hne:s.data.toList≠[]:=by intro e;rw [e] at hlen;simp at hlen;omega
  have hs:¬ (10:UInt8) ∈ s.data.toList.dropLast:=of_decide_eq_true (hn s List.mem_cons_self)
  have hd:=List.dropLast_concat_getLast hne
  rw [bodyT] at ht
  rcases List.mem_append.1 ht with ht|ht
  ·by_cases hc:closedL s.data.toList=true
   ·rw [if_pos hc] at ht
    obtain rfl:=List.mem_singleton.1 ht
    refine ⟨t.data.toList.dropLast,?_,hs⟩
    unfold closedL at hc
    rw [Bool.or_eq_true,decide_eq_true_eq,beq_iff_eq,List.getLast?_eq_some_getLast hne] at hc
    rcases hc with hc|hc
    ·exact absurd hc hne
    ·rw [Option.some.inj hc] at hd;exact hd.symm
   ·rw [if_neg hc] at ht
    have hl:s.data.toList.getLast hne≠10:=by
     intro e
     apply hc
     unfold closedL
     rw [List.getLast?_eq_some_getLast hne,e];simp
    rcases List.mem_cons.1 ht with rfl|ht
    ·refine ⟨s.data.toList,by rw [ByteArray.data_append,Array.toList_append],?_⟩
     rw [← hd]
     intro hm
     rcases List.mem_append.1 hm with hm|hm
     ·exact hs hm
     ·exact hl (List.mem_singleton.1 hm).symm
    ·obtain rfl:=List.mem_singleton.1 ht
     exact ⟨[92,32,78,111,32,110,101,119,108,105,110,101,32,97,116,32,101,110,100,32,111,102,32,102,105,108,101],rfl,by decide⟩
  ·exact body_lines r _ hrem (fun s hs=>hn s (List.mem_cons_of_mem _ hs)) t ht
theorem told_lines (l:List Hk) (h:∀ x ∈ l,canH x=true):∀ t ∈ toldL l,IsLn t:=by
 intro t ht
 obtain ⟨x,hx,ht⟩:=List.mem_flatMap.1 ht
 obtain ⟨ho,hk,e1,e3,hn⟩:=canH_ok (h x hx)
 rcases List.mem_cons.1 ht with rfl|ht
 ·exact head_line x ho
 ·exact body_lines x.f4 false hk hn t ht
theorem print_lines (l:List Hk) (h:∀ x ∈ l,canH x=true):linesB (printL canH l ⟨#[]⟩)=toldL l :=
 linesB_told _ (told_lines l h) _ (print_bytes canH l ⟨#[]⟩ h)
theorem parse_print (l:List Hk) (h:∀ x ∈ l,canH x=true):parseU (printL canH l ⟨#[]⟩)=(l,0,0):=by
 unfold parseU
 rw [print_lines l h]
 obtain ⟨b,hb⟩:=fold_list [] l [] true 0 h
 rw [List.append_nil] at hb
 rw [hb,parseL]
 simp
end Go.Proofs.YtamojbfmphainaaDoor.Pr
-- shrunk
/-
What is parsed, printed, is the text again, in plain Lean.
-/
namespace Go.Proofs.YtamojbfmphainaaDoor.Pr
open Go.RowKit Go.Proofs.YtamojbfmphainaaDoorW.PrintWords Go.Proofs.YtamojbfmphainaaDoorW.PrintLast Go.Proofs.YtamojbfmphainaaDoorW.PrintMore
theorem cut_back {s sep a b:List UInt8} (h:Lib.cut s sep=(a,b,true)):s=a++sep++b:=by
 unfold Lib.cut at h
 rcases Lib.index_spec s sep with ⟨e,_⟩|⟨i,e,hi,ho,_⟩
 ·rw [e,if_neg (by decide)] at h
  exact absurd (congrArg (·.2.2) h) (by simp)
 ·rw [e,if_pos (by omega)] at h
  simp only [Int.toNat_natCast,Prod.mk.injEq,and_true] at h
  unfold Lib.occAt at ho
  rw [List.isPrefixOf_iff_prefix] at ho
  obtain ⟨r,hr⟩:=ho
  have e2:s.drop (i+sep.length)=r:=by rw [← List.drop_drop,← hr,List.drop_left]
  rw [← h.1,← h.2,e2,List.append_assoc,hr,List.take_append_drop]
theorem cutB_back {s:ByteArray} {sep:List UInt8} (h:cutIs s sep=true):s.data.toList=(cutA s sep).data.toList++sep++(cutC s sep).data.toList:=by
 unfold cutIs at h
 exact cut_back (s:=s.data.toList) (sep:=sep) (a:=(Lib.cut s.data.toList sep).1) (b:=(Lib.cut s.data.toList sep).2.1) (by rw [← h])
theorem sideB_back {u:ByteArray} {p:Int × Int} (h:sideB u=some p):fromB p.1 p.2=u∧0≤p.1∧firstI p.1 p.2<2147483648∧0≤p.2∧p.2<2147483648:=by
 unfold sideB at h
 split at h
 ·rename_i hc
  have hb:=cutB_back hc
  rcases hx:numB (cutA u [44]) with _|x
  ·rw [hx] at h;cases h
  ·rcases hy:numB (cutC u [44]) with _|y
   ·rw [hx,hy] at h;cases h
   ·rw [hx,hy] at h
    simp only at h
    obtain ⟨x0,x1,xe⟩:=numB_range hx
    obtain ⟨y0,y1,ye⟩:=numB_range hy
    split at h
    ·cases h
    ·rename_i hn
     obtain rfl:=Option.some.inj h
     have ef:firstI (if y > 0 then x - 1 else x) y=x:=by unfold firstI;split<;>simp_all
     refine ⟨?_,?_,?_,y0,y1⟩
     ·simp only
      unfold fromB
      rw [ef,xe,ye]
      apply ByteArray.ext
      apply Array.toList_inj.1
      simp only [ByteArray.data_append,Array.toList_append]
      exact hb.symm
     ·simp only;split<;>omega
     ·simp only;rw [ef];exact x1
 ·cases h
theorem headB_back {t:ByteArray} {h:Hk} (e:headB t=some h):headOf h=t∧HeadOk h∧h.f4=[]:=by
 unfold headB at e
 split at e
 ·rename_i hc
  obtain ⟨h1,h2,h3⟩:=hc
  rcases hp:sideB (cutA (headT t) [32,43]) with _|p
  ·rw [hp] at e;cases e
  ·rcases hq:sideB (cutC (headT t) [32,43]) with _|q
   ·rw [hp,hq] at e;cases e
   ·rw [hp,hq] at e
    obtain rfl:=Option.some.inj e
    obtain ⟨p1,p2,p3,p4,p5⟩:=sideB_back hp
    obtain ⟨q1,q2,q3,q4,q5⟩:=sideB_back hq
    refine ⟨?_,⟨p2,p3,p4,p5,q2,q3,q4,q5⟩,rfl⟩
    have hb:=cutB_back h3
    have e1:t.data.toList=[64,64,32,45]++(preB t [64,64,32,45]).data.toList:=by
     unfold Lib.hasPrefix at h1
     obtain ⟨r,hr⟩:=List.isPrefixOf_iff_prefix.1 h1
     show _=_++Lib.trimPrefix t.data.toList [64,64,32,45]
     rw [← hr,(pre_at _ _).2]
    have e2:(preB t [64,64,32,45]).data.toList=(headT t).data.toList++[32,64,64,10]:=by
     unfold Lib.hasSuffix at h2
     obtain ⟨r,hr⟩:=List.isSuffixOf_iff_suffix.1 h2
     show _=Lib.trimSuffix (preB t [64,64,32,45]).data.toList [32,64,64,10]++_
     rw [← hr,(suf_at _ _).2]
    apply ByteArray.ext
    apply Array.toList_inj.1
    rw [headOf_bytes,e1,e2,hb,← p1,← q1]
 ·cases e
theorem okL_snoc:∀ (L:List ByteArray) (came:Bool) (t:ByteArray),okL came (L++[t])=(okL came L && decide (0<t.size∧(bt t 0=32∨bt t 0=43∨bt t 0=45)∧¬ (bt t 0=45∧(if L=[] then came else wentB L)=true)))
 | [],came,t=>by simp [okL]
 | s :: L,came,t=>by
  rw [List.cons_append,okL,okL,okL_snoc L _ t,Bool.and_assoc]
  congr 3
  have e:(if L=[] then decide (bt s 0=43) else wentB L)=(if s :: L=[] then came else wentB (s :: L)):=by
   rcases L with _|⟨u,r⟩
   ·rw [if_pos rfl,if_neg (by simp)];exact (went_snoc [] s).symm
   ·rw [if_neg (by simp),if_neg (by simp)];unfold wentB;rw [List.getLast?_cons_cons]
  rw [e]
theorem manyL_snoc (z:Int):∀ (L:List ByteArray) (t:ByteArray),manyL z (L++[t])=manyL z L+(if 0<t.size∧(bt t 0=32∨bt t 0=z) then 1 else 0)
 | [],t=>by simp [manyL]
 | s :: L,t=>by rw [List.cons_append,manyL,manyL,manyL_snoc z L t,Nat.add_assoc]
theorem bodyT_append:∀ (a b:List ByteArray),bodyT (a++b)=bodyT a++bodyT b
 | [],b=>rfl
 | s :: a,b=>by rw [List.cons_append,bodyT,bodyT,bodyT_append a b,List.append_assoc]
theorem toldL_snoc (l:List Hk) (y:Hk):toldL (l++[y])=toldL l++(headOf y :: bodyT y.f4):=by
 unfold toldL;rw [List.flatMap_append];simp [toldH]
theorem canH_of {x:Hk} (h:HeadOk x) (hk:okL false x.f4=true) (e1:x.f1=manyL 45 x.f4) (e3:x.f3=manyL 43 x.f4) (hn:∀ s ∈ x.f4,noNl s=true):canH x=true:=by
 unfold canH
 rw [Bool.and_eq_true,Bool.and_eq_true,List.all_eq_true]
 exact ⟨hn,decide_eq_true ⟨hk,h.a0,h.c0,e1,e3⟩,decide_eq_true ⟨h.a1,h.b1,h.c1,h.d1⟩⟩
structure LastOk (st:PS) (l:List Hk) (y:Hk):Prop where
 at_:st.l=l++[y]
 can:∀ x ∈ l,canH x=true
 head:HeadOk y
 ok:okL false y.f4=true
 nl:∀ s ∈ y.f4,noNl s=true
 an:y.f1=manyL 45 y.f4+st.an
 bn:y.f3=manyL 43 y.f4+st.bn
 open_:st.bare=false→∃ d s,y.f4=d++[s++(⟨#[10]⟩:ByteArray)]∧0<s.size∧¬ (10:UInt8) ∈ s.data.toList
structure Back (C:List ByteArray) (st:PS):Prop where
 a0:0≤st.an
 b0:0≤st.bn
 text:bytesL (toldL st.l)=bytesL C
 last:(st.l=[]∧st.an=0∧st.bn=0∧st.bare=true)∨∃ l y,LastOk st l y
theorem Back.all {C:List ByteArray} {st:PS} (h:Back C st) (ha:st.an=0) (hb:st.bn=0):∀ x ∈ st.l,canH x=true:=by
 intro x hx
 rcases h.last with ⟨e,_⟩|⟨l,y,k⟩
 ·rw [e] at hx;cases hx
 ·rw [k.at_] at hx
  rcases List.mem_append.1 hx with hx|hx
  ·exact k.can x hx
  ·obtain rfl:=List.mem_singleton.1 hx
   exact canH_of k.head k.ok (by rw [k.an,ha,Int.add_zero]) (by rw [k.bn,hb,Int.add_zero]) k.nl
theorem not_closed {s:ByteArray} (h0:0<s.size) (h:¬ (10:UInt8) ∈ s.data.toList):closedL s.data.toList≠true:=by
 have hlen:s.data.toList.length=s.size:=rfl
 intro hc
 unfold closedL at hc
 rw [Bool.or_eq_true,decide_eq_true_eq,beq_iff_eq] at hc
 rcases hc with e|e
 ·rw [e] at hlen;simp at hlen;omega
 ·exact h (List.mem_of_getLast? e)
theorem noNl_of {s:ByteArray} (h:¬ (10:UInt8) ∈ s.data.toList):noNl s=true:=decide_eq_true (fun hm=>h (List.dropLast_subset _ hm))
theorem line_open {t:ByteArray} (hn:noNl t=true) (h0:0<t.size) (hc:closedL t.data.toList=true) (h1:bt t 0≠10):∃ s:ByteArray,t=s++(⟨#[10]⟩:ByteArray)∧0<s.size∧¬ (10:UInt8) ∈ s.data.toList:=by
 have hlen:t.data.toList.length=t.size:=rfl
 have hne:t.data.toList≠[]:=by intro e;rw [e] at hlen;simp at hlen;omega
 have hd:=List.dropLast_concat_getLast hne
 have hl:t.data.toList.getLast hne=10:=by
  unfold closedL at hc
  rw [Bool.or_eq_true,decide_eq_true_eq,beq_iff_eq,List.getLast?_eq_some_getLast hne] at hc
  rcases hc with hc|hc
  ·exact absurd hc hne
  ·exact Option.some.inj hc
 rw [hl] at hd
 refine ⟨⟨t.data.toList.dropLast.toArray⟩,?_,?_,of_decide_eq_true hn⟩
 ·apply ByteArray.ext
  apply Array.toList_inj.1
  rw [ByteArray.data_append,Array.toList_append]
  exact hd.symm
 ·show 0<(t.data.toList.dropLast.toArray).size
  rw [List.size_toArray]
  rcases hx:t.data.toList.dropLast with _|⟨c,r⟩
  ·rw [hx] at hd
   exact absurd (bt_head t 10 [] hd.symm) h1
  ·simp
theorem Back.step {C:List ByteArray} {st st':PS} {t:ByteArray} (h:Back C st) (hn:noNl t=true) (h0:0<t.size) (e:stepP st t=some st'):Back (C++[t]) st':=by
 obtain ⟨L,an,bn,bare⟩:=st
 unfold stepP at e
 split at e
 ·rename_i hc
  obtain ⟨rfl,hb⟩:=hc
  simp only at hb
  subst hb
  rcases h.last with ⟨_,_,_,e4⟩|⟨l,y,k⟩
  ·cases e4
  ·obtain ⟨d,s,hy,hs0,hs10⟩:=k.open_ rfl
   have hL:L=l++[y]:=k.at_
   subst hL
   have hst:=open_step l y d s an bn hy
   unfold stepP at hst
   rw [if_pos ⟨rfl,rfl⟩] at hst
   have e3:=hst.symm.trans e
   obtain rfl:=Option.some.inj e3
   have hb0:bt (s++(⟨#[10]⟩:ByteArray)) 0=bt s 0:=bt_app _ _ hs0
   have hz:0<(s++(⟨#[10]⟩:ByteArray)).size:=by rw [ByteArray.size_append];omega
   have hok:=k.ok
   have han:=k.an
   have hbn:=k.bn
   rw [hy] at hok han hbn
   refine ⟨h.a0,h.b0,?_,.inr ⟨l,{ y with f4:=d++[s] },rfl,k.can,⟨k.head.a0,k.head.a1,k.head.b0,k.head.b1,k.head.c0,k.head.c1,k.head.d0,k.head.d1⟩,?_,?_,?_,?_,fun hb=>by cases hb⟩⟩
   ·have ht:=h.text
    simp only at ht ⊢
    rw [bytesL_append,← ht,toldL_snoc,toldL_snoc,hy,bodyT_append,bodyT_append]
    rw [show bodyT [s++(⟨#[10]⟩:ByteArray)]=[s++(⟨#[10]⟩:ByteArray)] by rw [bodyT,if_pos (by rw [ByteArray.data_append,Array.toList_append,closedL];simp)];rfl]
    rw [show bodyT [s]=[s++(⟨#[10]⟩:ByteArray),openB] by rw [bodyT,if_neg (not_closed hs0 hs10)];rfl]
    simp only [bytesL_append,bytesL_cons,List.append_assoc,List.cons_append,List.nil_append]
    rfl
   ·rw [okL_snoc,hb0] at hok
    simp only
    rw [okL_snoc]
    simp only [hz,hs0,true_and] at hok ⊢
    exact hok
   ·intro u hu
    rcases List.mem_append.1 hu with hu|hu
    ·exact k.nl u (by rw [hy];exact List.mem_append_left _ hu)
    ·obtain rfl:=List.mem_singleton.1 hu;exact noNl_of hs10
   ·simp only
    rw [manyL_snoc,hb0] at han
    rw [manyL_snoc]
    simp only [hz,hs0,true_and] at han ⊢
    exact han
   ·simp only
    rw [manyL_snoc,hb0] at hbn
    rw [manyL_snoc]
    simp only [hz,hs0,true_and] at hbn ⊢
    exact hbn
 ·rename_i hno
  simp only at e
  split at e
  ·rename_i hz
   obtain ⟨rfl,rfl⟩:=hz
   rcases hh:headB t with _|x
   ·rw [hh] at e;cases e
   ·rw [hh,Option.map_some] at e
    obtain rfl:=Option.some.inj e
    obtain ⟨x1,x2,x3⟩:=headB_back hh
    refine ⟨x2.b0,x2.d0,?_,.inr ⟨L,x,rfl,h.all rfl rfl,x2,by rw [x3];rfl,(fun s hs=>by rw [x3] at hs;cases hs),by simp [x3,manyL],by simp [x3,manyL],fun hb=>by cases hb⟩⟩
    have ht:=h.text
    simp only at ht ⊢
    rw [bytesL_append,← ht,toldL_snoc,x3,x1,bytesL_append]
    rfl
  ·rename_i hz
   rcases h.last with ⟨e1,e2,e3,_⟩|⟨l,y,k⟩
   ·exact absurd ⟨e2,e3⟩ hz
   ·have hL:L=l++[y]:=k.at_
    subst hL
    rw [last_at] at e
    simp only at e
    split at e
    ·rename_i hr
     obtain ⟨a,b,hs,hcl,ha,hb⟩:=lineR_some hr
     rw [hs,Option.map_some] at e
     obtain rfl:=Option.some.inj e
     have ead:addL (l++[y]) ((l++[y]).length - 1) t=l++[{ y with f4:=y.f4++[t] }]:=by
      unfold addL;rw [last_at];simp only;rw [set_at]
     have hsg:(bt t 0=32∧an=a+1∧bn=b+1)∨(bt t 0=45∧wentB y.f4=false∧an=a+1∧bn=b)∨(bt t 0=43∧an=a∧bn=b+1):=by
      unfold stepL at hs
      split at hs
      ·rename_i h1
       have:=Option.some.inj hs
       simp only [Prod.mk.injEq] at this
       exact .inl ⟨h1,by omega,by omega⟩
      ·split at hs
       ·rename_i h1
        split at hs
        ·cases hs
        ·rename_i h2
         have:=Option.some.inj hs
         simp only [Prod.mk.injEq] at this
         exact .inr (.inl ⟨h1,Bool.eq_false_iff.2 h2,by omega,by omega⟩)
       ·split at hs
        ·rename_i h1
         have:=Option.some.inj hs
         simp only [Prod.mk.injEq] at this
         exact .inr (.inr ⟨h1,by omega,by omega⟩)
        ·cases hs
     have han:=k.an
     have hbn:=k.bn
     simp only at han hbn
     refine ⟨ha,hb,?_,.inr ⟨l,{ y with f4:=y.f4++[t] },ead,k.can,⟨k.head.a0,k.head.a1,k.head.b0,k.head.b1,k.head.c0,k.head.c1,k.head.d0,k.head.d1⟩,?_,?_,?_,?_,fun _=>?_⟩⟩
     ·have ht:=h.text
      simp only at ht ⊢
      rw [bytesL_append,← ht,ead,toldL_snoc,toldL_snoc,bodyT_append]
      rw [show bodyT [t]=[t] by rw [bodyT,if_pos hcl];rfl]
      simp only [bytesL_append,bytesL_cons,List.append_assoc]
      rfl
     ·simp only
      rw [okL_snoc,k.ok,Bool.true_and,decide_eq_true_eq]
      refine ⟨h0,by omega,fun hw=>?_⟩
      obtain ⟨w1,w2⟩:=hw
      rcases hsg with ⟨g,_⟩|⟨_,g,_⟩|⟨g,_⟩
      ·omega
      ·split at w2
       ·cases w2
       ·rw [g] at w2;cases w2
      ·omega
     ·intro u hu
      rcases List.mem_append.1 hu with hu|hu
      ·exact k.nl u hu
      ·obtain rfl:=List.mem_singleton.1 hu;exact hn
     ·simp only
      rw [manyL_snoc]
      simp only [h0,true_and]
      rcases hsg with ⟨g,_⟩|⟨g,_⟩|⟨g,_⟩<;>rw [g]<;>simp<;>omega
     ·simp only
      rw [manyL_snoc]
      simp only [h0,true_and]
      rcases hsg with ⟨g,_⟩|⟨g,_⟩|⟨g,_⟩<;>rw [g]<;>simp<;>omega
     ·obtain ⟨s,hs1,hs2,hs3⟩:=line_open hn h0 hcl (by omega)
      exact ⟨y.f4,s,by rw [hs1],hs2,hs3⟩
    ·cases e
theorem lns_noNl (l:List UInt8):∀ x ∈ lns l,¬ (10:UInt8) ∈ x.dropLast:=by
 induction l with
 | nil=>intro x hx;simp [lns] at hx
 | cons b l ih =>
  by_cases hb:b=10
  ·subst hb
   rw [lns_nl]
   intro x hx
   rcases List.mem_cons.1 hx with rfl|hx
   ·simp
   ·exact ih x hx
  ·rw [lns_no hb]
   have hne:=lns_ne l
   rcases hl:lns l with _|⟨y,ys⟩
   ·intro x hx
    simp only [glue,List.mem_singleton] at hx
    subst hx;simp
   ·rw [hl] at ih hne
    intro x hx
    rcases List.mem_cons.1 hx with rfl|hx
    ·rw [List.singleton_append,List.dropLast_cons_of_ne_nil (hne y List.mem_cons_self)]
     intro hm
     rcases List.mem_cons.1 hm with e|hm
     ·exact hb e.symm
     ·exact ih y List.mem_cons_self hm
    ·exact ih x (List.mem_cons_of_mem _ hx)
theorem linesB_ok (s:ByteArray):∀ t ∈ linesB s,noNl t=true∧0<t.size:=by
 intro t ht
 refine ⟨?_,(linesB_mem ht).1⟩
 rw [linesB_lns] at ht
 obtain ⟨x,hx,rfl⟩:=List.mem_map.1 ht
 exact decide_eq_true (lns_noNl _ x hx)
theorem linesB_bytes (s:ByteArray):bytesL (linesB s)=s.data.toList:=by
 rw [linesB_lns]
 unfold bytesL
 rw [List.flatMap_map]
 have e:(fun x:List UInt8=>(bs x).data.toList)=id:=rfl
 rw [show (List.flatMap (fun x:List UInt8=>(bs x).data.toList) (lns s.data.toList))=List.flatMap id (lns s.data.toList) from rfl,List.flatMap_id]
 exact lns_flatten _
end Go.Proofs.YtamojbfmphainaaDoor.Pr
-- shrunk
/-
The chapter's example of layer 6, in plain Lean.
-/
namespace Go.Proofs.YtamojbfmphainaaDoor.Pr
open Go.RowKit Go.Proofs.YtamojbfmphainaaDoorW.PrintWords Go.Proofs.YtamojbfmphainaaDoorW.PrintLast Go.Proofs.YtamojbfmphainaaDoorW.PrintMore
def exU:S41:=⟨0,1,0,1,[(⟨#[45,97,10]⟩:ByteArray),(⟨#[43,98]⟩:ByteArray)]⟩
def exUT:ByteArray:=⟨#[64,64,32,45,49,44,49,32,43,49,44,49,32,64,64,10,45,97,10,43,98,10,92,32,78,111,32,110,101,119,108,105,110,101,32,97,116,32,101,110,100,32,111,102,32,102,105,108,101,10]⟩
theorem itoaB_one:itoaB 1=(⟨#[49]⟩:ByteArray):=by
 unfold itoaB
 rw [show (1:Int)=((1:Nat):Int) from rfl,Lib.itoa_nonneg,Lib.decDigits_one (by decide)]
 rfl
theorem can_ex:canH exU=true:=by decide +kernel
theorem from_ex:fromB 0 1=(⟨#[49,44,49]⟩:ByteArray):=by
 rw [fromB,show firstI 0 1=1 from rfl,itoaB_one];rfl
theorem head_ex:headOf exU=(⟨#[64,64,32,45,49,44,49,32,43,49,44,49,32,64,64,10]⟩:ByteArray):=by
 unfold headOf
 show _++fromB 0 1++_++fromB 0 1++_++_=_
 rw [from_ex]
 decide +kernel
theorem print_ex:printL canH [exU] ⟨#[]⟩=exUT:=by
 rw [printL,if_pos can_ex,head_ex]
 decide +kernel
theorem parse_x:parseU (⟨#[120]⟩:ByteArray)=([],1,3):=by
 rw [parseU,linesB_lns]
 kernel_rfl
theorem parse_ex:parseU exUT=([exU],0,0):=by
 rw [parseU,linesB_lns]
 kernel_rfl
end Go.Proofs.YtamojbfmphainaaDoor.Pr
-- shrunk
/-
Which lists of hunks layer 6 looks at, in plain Lean.
-/
namespace Go.Proofs.YtamojbfmphainaaDoor.Pr
open Go.RowKit Go.Proofs.YtamojbfmphainaaDoorW.PrintWords Go.Proofs.YtamojbfmphainaaDoorW.PrintLast Go.Proofs.YtamojbfmphainaaDoorW.PrintMore
theorem rdU_at {xs:List S41} {i:Nat} (h:i<xs.length):rd_T41 xs (i:Int)=xs[i]:=by
 unfold rd_T41;simp [List.getD,List.getElem?_eq_getElem h]
def FewH (h:S41):Prop:=h.f4.length≤30∧h.f0≤1048576∧h.f2≤1048576∧h.f1≤1048576∧h.f3≤1048576 ∧ -1048576≤h.f0 ∧ -1048576≤h.f2 ∧ -1048576≤h.f1 ∧ -1048576≤h.f3
instance (h:S41):Decidable (FewH h):=by unfold FewH;exact inferInstance
end Go.Proofs.YtamojbfmphainaaDoor.Pr
-- shrunk
