/-
Several plain texts in one.
-/
import Derived.Test.YtamojbfmphainaaDoorK0
import Derived.Test.YtamojbfmphainaaDoorK1
import Derived.Outline
import Derived.Lib.ItoaMem
set_option linter.unusedVariables false
set_option linter.unusedSimpArgs false
-- written by a program of this session's (a turned copy of the kit's printer); Lean checks it
namespace Go.Proofs.YtamojbfmphainaaDoor.Pr
open Go.RowKit Go.Proofs.YtamojbfmphainaaDoorW.PrintWords Go.Proofs.YtamojbfmphainaaDoorW.PrintLast Go.Proofs.YtamojbfmphainaaDoorW.PrintMore
attribute [local go_sem] max2_int min2_int max_two min_two max_three min_three max_four min_four   -- for this text's walks alone

def unified_can.l0:Nat→List ByteArray→Int→Int→Int→Int→Int→Int→List ByteArray→Option (Bool)
 | 0,_,_,_,_,_,_,_,_=>none
 | k+1,x6,x7,x8,x114000,x114001,x114002,x114003,x114004=>if x8<x7 then (if 0≤x8 then (if x8<(x6.length:Int) then ((unified_plain.f (rdOf ByteArray.empty x6 x8)).bind fun t115=>(if t115=true then (unified_can.l0 k x6 x7 (wrap64 (x8+1)) x114000 x114001 x114002 x114003 x114004) else (some false))) else (none)) else (none)) else ((hunk_Right.f k x114000 x114001 x114002 x114003 x114004).bind fun t116=>(if t116=true then ((unified_first.f x114000 x114001).bind fun t117=>((unified_first.f x114002 x114003).bind fun t118=>(some (decide ((mx (mx (mx t117 x114001) t118) x114003)<2147483648))))) else (some false)))
def unified_can.f (k:Nat) (a0_0:Int) (a0_1:Int) (a0_2:Int) (a0_3:Int) (l0_4:List ByteArray):Option (Bool):=unified_can.l0 k l0_4 (l0_4.length:Int) 0 a0_0 a0_1 a0_2 a0_3 l0_4
def unified_can.T7:Bool × List (List Nat × List Nat):=(true,[([],[]),([0],[0]),([1,1],[1]),([2],[2]),([3,2],[2,3]),([2],[2]),([5,2],[2,5]),([4,6,2,2],[2,4,6]),([2],[2]),([8,2],[2,8]),([2],[2]),([10,2],[2,10]),([2],[2]),([12,2],[2,12]),([11,13,7,2],[2,11,13]),([2],[2]),([15,2],[2,15]),([7,9,14,16,2],[2,7,9,14,16]),([17,2],[2,17]),([2,18],[2,18]),([19,14,0,1,2,3,4,5,6,7,8,9,10,11,12,13,14,15,16,17,18,19],[19])])
def unified_can.B7:List Nat:=[0,1,3,7,15,7,39,127,7,263,7,1031,7,4103,15615,7,32775,131071,262143,524287,1048575]
theorem unified_can.tab7:rtab .any (opsOf Tryd.f22 7)=unified_can.T7:=by kernel_rfl
theorem unified_can.bits7:waitsOk unified_can.T7.2 unified_can.B7=true:=by kernel_rfl
set_option maxHeartbeats 8000000 in
set_option maxRecDepth 100000 in
theorem unified_can.calls (k:Nat) (a0_0:Int) (a0_1:Int) (a0_2:Int) (a0_3:Int) (A0_4:Option Addr) (c0_4:Nat) (l0_4:List ByteArray) (r:Bool) (w:World) (hr0_4:Kd.C Kd.string w A0_4 l0_4.length l0_4) (hc0_4:l0_4.length≤c0_4) (h:unified_can.f k a0_0 a0_1 a0_2 a0_3 l0_4=some r) :
  Calls Tryd.prog 22 #[.agg #[.int .i64 a0_0,.int .i64 a0_1,.int .i64 a0_2,.int .i64 a0_3,.slice A0_4 l0_4.length c0_4]] w fun e w'=>e=.returned (.bool r)∧Below w.heap.size w w':=by
 have hu41:=Tryd.underlying41
 have HR0_4:=Aside0.mk hr0_4
 have HC0_4:=Aside0.mk hc0_4
 clear hr0_4 hc0_4
 have HB:=Aside0.mk (Below.refl w.heap.size w)
 have H:(unified_can.l0 k l0_4 (l0_4.length:Int) 0 a0_0 a0_1 a0_2 a0_3 l0_4)=some r:=h
 clear h
 have H':=Aside0.mk H
 clear H
 go_enter Tryd.func22,Tryd.ntmps22
 go_wp2_with (first|((with_reducible refine gate_dst (N:=1) rfl ?_);(try (refine gate_guard (by rfl) ?_;dsimp only));refine box_event ?hg (N:=1) ?hd (cs:=#[.int .i64 a0_0,.int .i64 a0_1,.int .i64 a0_2,.int .i64 a0_3,.slice A0_4 l0_4.length c0_4]) (t:=41) ?hr ?_;(case hd=>rfl);(case hg=>rfl);(case hr=>first|(go_simp;done)|(go_simp;rfl));intro gb113 hg w2 hbox hb;have n0_:=Aside0.mk (below_step (by repeat (first|(with_reducible first|exact HB.out|apply below_alloc|apply pw_below_drewN|apply below_drew1)|exact HB.out)) hb);have n1_:=Aside0.mk (hbox);have n2_:=Aside0.mk ((by rw [hg];exact (below_size (by repeat (first|(with_reducible first|exact HB.out|apply below_alloc|apply pw_below_drewN|apply below_drew1)|exact HB.out))):w.heap.size≤gb113));have n3_:=Aside0.mk ((by rw [hg];exact (below_size (by repeat (first|(with_reducible first|exact HB.out|apply below_alloc|apply pw_below_drewN|apply below_drew1)|exact HB.out))):w.heap.size≤gb113));clear HB;have HB:=n0_;have BK113:=n1_;have GW113:=n2_;have GE113:=n3_;clear n0_ n1_ n2_ n3_;clear hb hbox hg;have hcz3_0:w2.cell? ⟨gb113,0,none⟩=some (.int .i64 a0_0):=(blk_cell BK113.out 0).trans rfl;have hcz3_1:w2.cell? ⟨gb113,1,none⟩=some (.int .i64 a0_1):=(blk_cell BK113.out 1).trans rfl;have hcz3_2:w2.cell? ⟨gb113,2,none⟩=some (.int .i64 a0_2):=(blk_cell BK113.out 2).trans rfl;have hcz3_3:w2.cell? ⟨gb113,3,none⟩=some (.int .i64 a0_3):=(blk_cell BK113.out 3).trans rfl;have hcz3_4:w2.cell? ⟨gb113,4,none⟩=some (.slice A0_4 l0_4.length c0_4):=(blk_cell BK113.out 4).trans rfl;have hfz3_0:=blk_frozen BK113.out 0;have hfz3_1:=blk_frozen BK113.out 1;have hfz3_2:=blk_frozen BK113.out 2;have hfz3_3:=blk_frozen BK113.out 3;have hfz3_4:=blk_frozen BK113.out 4))
 go_loopg [8] k (fun kq v8 w'=>∃ (x8_1:Int),v8=.int .i64 x8_1∧Aside0 (unified_can.l0 kq l0_4 (l0_4.length:Int) x8_1 a0_0 a0_1 a0_2 a0_3 l0_4=some r)∧Aside0 (kq≤k)∧Aside0 (w'.heap[gb113]?=some (.cells #[.int .i64 a0_0,.int .i64 a0_1,.int .i64 a0_2,.int .i64 a0_3,(.slice A0_4 l0_4.length c0_4)] 41 (0,0)))∧Aside0 (Below w.heap.size w w'))
 case atStart=>exact ⟨(0),(by first|rfl|(simp;done)|(simp [*];done)),H',⟨Nat.le_refl _⟩,⟨by (with_reducible repeat (first|refine blk_drewN ?_ _|refine blk_drew ?_|refine blk_alloc ?_ _));exact BK113.out⟩,⟨by repeat (first|(with_reducible first|exact HB.out|apply below_alloc|apply pw_below_drewN|apply below_drew1|refine below_set ?_ GE113.out)|exact HB.out)⟩⟩
 case round =>
  clear H'
  try clear c2
  try clear p2
  try clear hcz3_0
  try clear hcz3_1
  try clear hcz3_2
  try clear hcz3_3
  try clear hcz3_4
  try clear hfz3_0
  try clear hfz3_1
  try clear hfz3_2
  try clear hfz3_3
  try clear hfz3_4
  obtain ⟨x8_1,rfl,HA,HK1,BK113,HB⟩:=hrel
  cases gk with
  | zero=>exact absurd HA.out (by simp [unified_can.l0])
  | succ k1 =>
   have H:=HA.out
   clear HA
   simp only [unified_can.l0] at H
   by_cases c4:x8_1<(l0_4.length:Int)
   ·rw [if_pos c4] at H
    have c4b0:decide (x8_1<(l0_4.length:Int))=true:=decide_eq_true c4
    clear c4
    by_cases c5:0≤x8_1
    ·rw [if_pos c5] at H
     have c5b0:decide (0≤x8_1)=true:=decide_eq_true c5
     clear c5
     by_cases c6:x8_1<(l0_4.length:Int)
     ·rw [if_pos c6] at H
      have c6b0:decide (x8_1<(l0_4.length:Int))=true:=decide_eq_true c6
      clear c6
      replace H:=Option.bind_eq_some_iff.mp H
      obtain ⟨t115,A70,H⟩:=H
      replace H:(if t115=true then (unified_can.l0 k1 l0_4 (l0_4.length:Int) (wrap64 (x8_1+1)) a0_0 a0_1 a0_2 a0_3 l0_4) else (some false))=some r:=H
      have A7:=Aside0.mk A70
      clear A70
      by_cases c8:t115=true
      ·subst c8
       have H1:(unified_can.l0 k1 l0_4 (l0_4.length:Int) (wrap64 (x8_1+1)) a0_0 a0_1 a0_2 a0_3 l0_4)=some r:=by rw [if_pos rfl] at H;exact H
       clear H
       have H:=H1
       clear H1
       have H':=Aside0.mk H
       clear H
       have p114:0≤(x8_1:Int):=of_decide_eq_true (by first|(with_reducible assumption)|assumption)
       have q114:x8_1<(l0_4.length:Int):=of_decide_eq_true (by first|(with_reducible assumption)|assumption)
       obtain ⟨ad114,e114,hx114_0⟩:=Kd.at_string HR0_4.out x8_1 p114 q114
       cases e114
       replace hx114_0:=(HB.out.cell (World.block_lt_of_cell? w _ hx114_0)).trans hx114_0
       replace p114:=eq_true p114
       replace q114:=eq_true q114
       go_wp2_with (first|((with_reducible refine gate_callee (f:=51) rfl ?_);refine goesL_ (some 13) rfl rfl Tryd.func51 (by kernel_rfl) rfl #[.string (rdOf ByteArray.empty l0_4 x8_1)] rfl (by (try simp only [List.map_toArray,List.map_cons,List.map_nil]);first|done|rfl|(simp only [List.length_drop,List.length_take];rfl)) ?_;(with_reducible refine (unified_plain.calls (rdOf ByteArray.empty l0_4 x8_1) true _ A7.out).mono ?_);rintro e w' ⟨rfl,⟨nd,rfl⟩⟩;refine ⟨_,rfl,?_⟩))
       go_roundg k1
       case measure=>have:=HK1.out;omega
       case rel=>exact ⟨(wrap64 (x8_1+1)),(by first|rfl|(simp;done)|(simp [*];done)),H',⟨by have:=HK1.out;omega⟩,⟨by (with_reducible repeat (first|refine blk_drewN ?_ _|refine blk_drew ?_|refine blk_alloc ?_ _));exact BK113.out⟩,⟨by repeat (first|(with_reducible first|exact HB.out|apply below_alloc|apply pw_below_drewN|apply below_drew1|refine below_set ?_ GE113.out)|exact HB.out)⟩⟩
      ·replace c8:=Bool.eq_false_iff.mpr c8
       subst c8
       have H1:(some false)=some r:=by rw [if_neg (show ¬ (false=true) by decide)] at H;exact H
       clear H
       have H:=H1
       clear H1
       obtain rfl:=Option.some.inj H
       have p114:0≤(x8_1:Int):=of_decide_eq_true (by first|(with_reducible assumption)|assumption)
       have q114:x8_1<(l0_4.length:Int):=of_decide_eq_true (by first|(with_reducible assumption)|assumption)
       obtain ⟨ad114,e114,hx114_0⟩:=Kd.at_string HR0_4.out x8_1 p114 q114
       cases e114
       replace hx114_0:=(HB.out.cell (World.block_lt_of_cell? w _ hx114_0)).trans hx114_0
       replace p114:=eq_true p114
       replace q114:=eq_true q114
       go_wp2_with (first|((with_reducible refine gate_callee (f:=51) rfl ?_);refine goesL_ (some 13) rfl rfl Tryd.func51 (by kernel_rfl) rfl #[.string (rdOf ByteArray.empty l0_4 x8_1)] rfl (by (try simp only [List.map_toArray,List.map_cons,List.map_nil]);first|done|rfl|(simp only [List.length_drop,List.length_take];rfl)) ?_;(with_reducible refine (unified_plain.calls (rdOf ByteArray.empty l0_4 x8_1) false _ A7.out).mono ?_);rintro e w' ⟨rfl,⟨nd,rfl⟩⟩;refine ⟨_,rfl,?_⟩))
       go_ret
       exact ⟨by first|rfl|(simp [errW_none,errW_some]<;>rfl)|(simp [*,errW_none,errW_some]<;>rfl),by repeat (first|(with_reducible first|exact HB.out|apply below_alloc|apply pw_below_drewN|apply below_drew1|refine below_set ?_ GE113.out)|exact HB.out)⟩
     ·rw [if_neg c6] at H
      exact absurd H (by simp)
    ·rw [if_neg c5] at H
     exact absurd H (by simp)
   ·rw [if_neg c4] at H
    have c4b0:decide (x8_1<(l0_4.length:Int))=false:=decide_eq_false c4
    clear c4
    replace H:=Option.bind_eq_some_iff.mp H
    obtain ⟨t116,A90,H⟩:=H
    replace H:(if t116=true then ((unified_first.f a0_0 a0_1).bind fun t117=>((unified_first.f a0_2 a0_3).bind fun t118=>(some (decide ((mx (mx (mx t117 a0_1) t118) a0_3)<2147483648))))) else (some false))=some r:=H
    have A9:=Aside0.mk A90
    clear A90
    by_cases c10:t116=true
    ·subst c10
     have H1:((unified_first.f a0_0 a0_1).bind fun t117=>((unified_first.f a0_2 a0_3).bind fun t118=>(some (decide ((mx (mx (mx t117 a0_1) t118) a0_3)<2147483648)))))=some r:=by rw [if_pos rfl] at H;exact H
     clear H
     have H:=H1
     clear H1
     replace H:=Option.bind_eq_some_iff.mp H
     obtain ⟨t117,A110,H⟩:=H
     replace H:((unified_first.f a0_2 a0_3).bind fun t118=>(some (decide ((mx (mx (mx t117 a0_1) t118) a0_3)<2147483648))))=some r:=H
     have A11:=Aside0.mk A110
     clear A110
     replace H:=Option.bind_eq_some_iff.mp H
     obtain ⟨t118,A120,H⟩:=H
     replace H:(some (decide ((mx (mx (mx t117 a0_1) t118) a0_3)<2147483648)))=some r:=H
     have A12:=Aside0.mk A120
     clear A120
     obtain ⟨ji13,hji13⟩:∃ j_:Int,(mx t117 a0_1)=j_:=⟨_,rfl⟩
     replace H:(some (decide ((mx (mx (ji13) t118) a0_3)<2147483648)))=some r:=by first|(rw [hji13] at H;exact H)|(simp only [hji13] at H ⊢;exact H)
     (try rw [hji13] at A9)
     (try rw [hji13] at A11)
     (try rw [hji13] at A12)
     have hji13_:(if t117<a0_1 then a0_1 else t117)=ji13:=hji13
     obtain ⟨ji14,hji14⟩:∃ j_:Int,(mx (ji13) t118)=j_:=⟨_,rfl⟩
     replace H:(some (decide ((mx (ji14) a0_3)<2147483648)))=some r:=by first|(rw [hji14] at H;exact H)|(simp only [hji14] at H ⊢;exact H)
     (try rw [hji14] at A9)
     (try rw [hji14] at A11)
     (try rw [hji14] at A12)
     have hji14_:(if (ji13)<t118 then t118 else (ji13))=ji14:=hji14
     obtain ⟨ji15,hji15⟩:∃ j_:Int,(mx (ji14) a0_3)=j_:=⟨_,rfl⟩
     replace H:(some (decide ((ji15)<2147483648)))=some r:=by first|(rw [hji15] at H;exact H)|(simp only [hji15] at H ⊢;exact H)
     (try rw [hji15] at A9)
     (try rw [hji15] at A11)
     (try rw [hji15] at A12)
     have hji15_:(if (ji14)<a0_3 then a0_3 else (ji14))=ji15:=hji15
     obtain rfl:=Option.some.inj H
     try go_wp2
     have n0_:=Aside0.mk (blk_drew BK113.out)
     have n1_:=Aside0.mk (below_drew1 HB.out)
     clear BK113
     clear HB
     have BK113:=n0_
     have HB:=n1_
     clear n0_ n1_
     refine start_ (n:=21) (S:=fun w'=>w'.cell? ⟨gb113,0,none⟩=some (.int .i64 a0_0)∧w'.cell? ⟨gb113,1,none⟩=some (.int .i64 a0_1)∧w'.cell? ⟨gb113,2,none⟩=some (.int .i64 a0_2)∧w'.cell? ⟨gb113,3,none⟩=some (.int .i64 a0_3)∧w'.cell? ⟨gb113,4,none⟩=some (.slice A0_4 l0_4.length c0_4)) (ds:=[]) #[false,false,false,false,false,false,false,false,false,false,false,false,false,false,false,false,false,false,false,false,false] (by kernel_rfl) rfl rfl ⟨(blk_cell BK113.out 0).trans rfl,(blk_cell BK113.out 1).trans rfl,(blk_cell BK113.out 2).trans rfl,(blk_cell BK113.out 3).trans rfl,(blk_cell BK113.out 4).trans rfl⟩ (fun hHeld=>?_);refine with_tabW unified_can.tab7 unified_can.bits7 (fun HT_ HW_=>?_)
     generalize wr.drew=w16 at BK113 HB hHeld ⊢
     refine take_ (i:=0) (N:=some 16) (v:=?_) (a':=?_) #[true,false,false,false,false,false,false,false,false,false,false,false,false,false,false,false,false,false,false,false,false] rfl rfl (take_ofW HT_.out HW_.out (by kernel_rfl)) (fun _ _ _ h=>h) (Or.inl ⟨by rfl,?_⟩) hHeld ?_ ?_
     rotate_left
     ·rintro w' ⟨s0,s1,s2,s3,s4⟩
      go_simp
      with_reducible rfl
     rotate_left
     ·simp only [Act.put,List.setIfInBounds_toArray,List.set_cons_zero,List.set_cons_succ,i64_w,i32_w]
      rfl
     refine one_ (i:=1) (N:=some 17) #[true,true,false,false,false,false,false,false,false,false,false,false,false,false,false,false,false,false,false,false,false] rfl rfl (one_of HT_.out (by kernel_rfl)) (by decide) (fun K hK=>?_)
     refine goes_ Tryd.func52 (by kernel_rfl) rfl #[.agg #[.int .i64 a0_0,.int .i64 a0_1,.int .i64 a0_2,.int .i64 a0_3,.slice A0_4 l0_4.length c0_4]] (by rfl) rfl rfl (by (try simp only [List.map_toArray,List.map_cons,List.map_nil]);first|done|rfl|(simp only [List.length_drop,List.length_take];rfl)) ?_
     with_reducible refine (hunk_Right.calls k1 a0_0 a0_1 a0_2 a0_3 _ _ l0_4 true _ ?side1 ?side2 A9.out).mono ?_
     (case side1=>repeat (first|exact (Kd.C_below HR0_4.out HB.out)|(with_reducible refine Kd.C_alloc ?_ _)|(with_reducible refine Kd.C_drewN ?_ _)|(with_reducible refine Kd.C_drew ?_)))
     (case side2=>exact HC0_4.out)
     rintro e w17 ⟨rfl,hb⟩
     refine ⟨_,rfl,?_⟩
     have n0_:=Aside0.mk (blk_below (g:=gb113) (o:=.cells #[.int .i64 a0_0,.int .i64 a0_1,.int .i64 a0_2,.int .i64 a0_3,.slice A0_4 l0_4.length c0_4] 41 (0,0)) (by (with_reducible repeat (first|refine blk_drewN ?_ _|refine blk_drew ?_|refine blk_alloc ?_ _));exact BK113.out) hb)
     have n1_:=Aside0.mk (below_step (by repeat (first|(with_reducible first|exact HB.out|apply below_alloc|apply pw_below_drewN|apply below_drew1|refine below_set ?_ GE113.out)|exact HB.out)) hb)
     clear BK113
     clear HB
     have BK113:=n0_
     have HB:=n1_
     clear n0_ n1_
     (try clear hb)
     (try clear hb2)
     (try clear hk)
     (try clear hi)
     refine hK.out _ _ ⟨(blk_cell BK113.out 0).trans rfl,(blk_cell BK113.out 1).trans rfl,(blk_cell BK113.out 2).trans rfl,(blk_cell BK113.out 3).trans rfl,(blk_cell BK113.out 4).trans rfl⟩ (fun hHeld=>?_)
     clear hK K
     refine norm_ (a':=?_) ?_ ?_
     rotate_left
     ·show Act.put _ (some 17) _=_
      simp only [Act.put,List.setIfInBounds_toArray,List.set_cons_zero,List.set_cons_succ,i64_w,i32_w]
      rfl
     refine pure_ (i:=2) (N:=some 18) (v:=?_) (a':=?_) #[true,true,true,false,false,false,false,false,false,false,false,false,false,false,false,false,false,false,false,false,false] rfl rfl (any_of HT_.out (by kernel_rfl)) (fun _ _ _ h=>h) (Or.inl ⟨by rfl,?_⟩) ?_ ?_
     rotate_left
     ·intro w'
      go_simp
      with_reducible rfl
     rotate_left
     ·simp only [Act.put,List.setIfInBounds_toArray,List.set_cons_zero,List.set_cons_succ,i64_w,i32_w]
      rfl
     refine pure_ (i:=3) (N:=some 19) (v:=?_) (a':=?_) #[true,true,true,true,false,false,false,false,false,false,false,false,false,false,false,false,false,false,false,false,false] rfl rfl (any_of HT_.out (by kernel_rfl)) (fun _ _ _ h=>h) (Or.inl ⟨by rfl,?_⟩) ?_ ?_
     rotate_left
     ·intro w'
      go_simp
      with_reducible rfl
     rotate_left
     ·simp only [Act.put,List.setIfInBounds_toArray,List.set_cons_zero,List.set_cons_succ,i64_w,i32_w]
      rfl
     refine pure_ (i:=5) (N:=some 21) (v:=?_) (a':=?_) #[true,true,true,true,false,true,false,false,false,false,false,false,false,false,false,false,false,false,false,false,false] rfl rfl (any_of HT_.out (by kernel_rfl)) (fun _ _ _ h=>h) (Or.inl ⟨by rfl,?_⟩) ?_ ?_
     rotate_left
     ·intro w'
      go_simp
      with_reducible rfl
     rotate_left
     ·simp only [Act.put,List.setIfInBounds_toArray,List.set_cons_zero,List.set_cons_succ,i64_w,i32_w]
      rfl
     refine pure_ (i:=8) (N:=some 24) (v:=?_) (a':=?_) #[true,true,true,true,false,true,false,false,true,false,false,false,false,false,false,false,false,false,false,false,false] rfl rfl (any_of HT_.out (by kernel_rfl)) (fun _ _ _ h=>h) (Or.inl ⟨by rfl,?_⟩) ?_ ?_
     rotate_left
     ·intro w'
      go_simp
      with_reducible rfl
     rotate_left
     ·simp only [Act.put,List.setIfInBounds_toArray,List.set_cons_zero,List.set_cons_succ,i64_w,i32_w]
      rfl
     refine pure_ (i:=10) (N:=some 26) (v:=?_) (a':=?_) #[true,true,true,true,false,true,false,false,true,false,true,false,false,false,false,false,false,false,false,false,false] rfl rfl (any_of HT_.out (by kernel_rfl)) (fun _ _ _ h=>h) (Or.inl ⟨by rfl,?_⟩) ?_ ?_
     rotate_left
     ·intro w'
      go_simp
      with_reducible rfl
     rotate_left
     ·simp only [Act.put,List.setIfInBounds_toArray,List.set_cons_zero,List.set_cons_succ,i64_w,i32_w]
      rfl
     refine pure_ (i:=12) (N:=some 28) (v:=?_) (a':=?_) #[true,true,true,true,false,true,false,false,true,false,true,false,true,false,false,false,false,false,false,false,false] rfl rfl (any_of HT_.out (by kernel_rfl)) (fun _ _ _ h=>h) (Or.inl ⟨by rfl,?_⟩) ?_ ?_
     rotate_left
     ·intro w'
      go_simp
      with_reducible rfl
     rotate_left
     ·simp only [Act.put,List.setIfInBounds_toArray,List.set_cons_zero,List.set_cons_succ,i64_w,i32_w]
      rfl
     refine pure_ (i:=15) (N:=some 31) (v:=?_) (a':=?_) #[true,true,true,true,false,true,false,false,true,false,true,false,true,false,false,true,false,false,false,false,false] rfl rfl (any_of HT_.out (by kernel_rfl)) (fun _ _ _ h=>h) (Or.inl ⟨by rfl,?_⟩) ?_ ?_
     rotate_left
     ·intro w'
      go_simp
      with_reducible rfl
     rotate_left
     ·simp only [Act.put,List.setIfInBounds_toArray,List.set_cons_zero,List.set_cons_succ,i64_w,i32_w]
      rfl
     refine take_ (i:=4) (N:=some 20) (v:=?_) (a':=?_) #[true,true,true,true,true,true,false,false,true,false,true,false,true,false,false,true,false,false,false,false,false] rfl rfl (take_ofW HT_.out HW_.out (by kernel_rfl)) (fun _ _ _ h=>h) (Or.inl ⟨by rfl,?_⟩) hHeld ?_ ?_
     rotate_left
     ·rintro w' ⟨s0,s1,s2,s3,s4⟩
      go_simp
      with_reducible rfl
     rotate_left
     ·simp only [Act.put,List.setIfInBounds_toArray,List.set_cons_zero,List.set_cons_succ,i64_w,i32_w]
      rfl
     refine take_ (i:=6) (N:=some 22) (v:=?_) (a':=?_) #[true,true,true,true,true,true,true,false,true,false,true,false,true,false,false,true,false,false,false,false,false] rfl rfl (take_ofW HT_.out HW_.out (by kernel_rfl)) (fun _ _ _ h=>h) (Or.inl ⟨by rfl,?_⟩) hHeld ?_ ?_
     rotate_left
     ·rintro w' ⟨s0,s1,s2,s3,s4⟩
      go_simp
      with_reducible rfl
     rotate_left
     ·simp only [Act.put,List.setIfInBounds_toArray,List.set_cons_zero,List.set_cons_succ,i64_w,i32_w]
      rfl
     refine take_ (i:=9) (N:=some 25) (v:=?_) (a':=?_) #[true,true,true,true,true,true,true,false,true,true,true,false,true,false,false,true,false,false,false,false,false] rfl rfl (take_ofW HT_.out HW_.out (by kernel_rfl)) (fun _ _ _ h=>h) (Or.inl ⟨by rfl,?_⟩) hHeld ?_ ?_
     rotate_left
     ·rintro w' ⟨s0,s1,s2,s3,s4⟩
      go_simp
      with_reducible rfl
     rotate_left
     ·simp only [Act.put,List.setIfInBounds_toArray,List.set_cons_zero,List.set_cons_succ,i64_w,i32_w]
      rfl
     refine take_ (i:=11) (N:=some 27) (v:=?_) (a':=?_) #[true,true,true,true,true,true,true,false,true,true,true,true,true,false,false,true,false,false,false,false,false] rfl rfl (take_ofW HT_.out HW_.out (by kernel_rfl)) (fun _ _ _ h=>h) (Or.inl ⟨by rfl,?_⟩) hHeld ?_ ?_
     rotate_left
     ·rintro w' ⟨s0,s1,s2,s3,s4⟩
      go_simp
      with_reducible rfl
     rotate_left
     ·simp only [Act.put,List.setIfInBounds_toArray,List.set_cons_zero,List.set_cons_succ,i64_w,i32_w]
      rfl
     refine take_ (i:=13) (N:=some 29) (v:=?_) (a':=?_) #[true,true,true,true,true,true,true,false,true,true,true,true,true,true,false,true,false,false,false,false,false] rfl rfl (take_ofW HT_.out HW_.out (by kernel_rfl)) (fun _ _ _ h=>h) (Or.inl ⟨by rfl,?_⟩) hHeld ?_ ?_
     rotate_left
     ·rintro w' ⟨s0,s1,s2,s3,s4⟩
      go_simp
      with_reducible rfl
     rotate_left
     ·simp only [Act.put,List.setIfInBounds_toArray,List.set_cons_zero,List.set_cons_succ,i64_w,i32_w]
      rfl
     refine take_ (i:=16) (N:=some 32) (v:=?_) (a':=?_) #[true,true,true,true,true,true,true,false,true,true,true,true,true,true,false,true,true,false,false,false,false] rfl rfl (take_ofW HT_.out HW_.out (by kernel_rfl)) (fun _ _ _ h=>h) (Or.inl ⟨by rfl,?_⟩) hHeld ?_ ?_
     rotate_left
     ·rintro w' ⟨s0,s1,s2,s3,s4⟩
      go_simp
      with_reducible rfl
     rotate_left
     ·simp only [Act.put,List.setIfInBounds_toArray,List.set_cons_zero,List.set_cons_succ,i64_w,i32_w]
      rfl
     refine one_ (i:=7) (N:=some 23) #[true,true,true,true,true,true,true,true,true,true,true,true,true,true,false,true,true,false,false,false,false] rfl rfl (one_of HT_.out (by kernel_rfl)) (by decide) (fun K hK=>?_)
     refine goes_ Tryd.func53 (by kernel_rfl) rfl #[.int .i64 a0_0,.int .i64 a0_1] (by rfl) rfl rfl (by (try simp only [List.map_toArray,List.map_cons,List.map_nil]);first|done|rfl|(simp only [List.length_drop,List.length_take];rfl)) ?_
     with_reducible refine (unified_first.calls a0_0 a0_1 t117 _ A11.out).mono ?_
     rintro e w' ⟨rfl,⟨nd,rfl⟩⟩
     refine ⟨_,rfl,?_⟩
     refine hK.out _ _ ⟨(blk_cell BK113.out 0).trans rfl,(blk_cell BK113.out 1).trans rfl,(blk_cell BK113.out 2).trans rfl,(blk_cell BK113.out 3).trans rfl,(blk_cell BK113.out 4).trans rfl⟩ (fun hHeld=>?_)
     clear hK K
     refine norm_ (a':=?_) ?_ ?_
     rotate_left
     ·show Act.put _ (some 23) _=_
      simp only [Act.put,List.setIfInBounds_toArray,List.set_cons_zero,List.set_cons_succ,i64_w,i32_w]
      rfl
     refine one_ (i:=14) (N:=some 30) #[true,true,true,true,true,true,true,true,true,true,true,true,true,true,true,true,true,false,false,false,false] rfl rfl (one_of HT_.out (by kernel_rfl)) (by decide) (fun K hK=>?_)
     refine goes_ Tryd.func53 (by kernel_rfl) rfl #[.int .i64 a0_2,.int .i64 a0_3] (by rfl) rfl rfl (by (try simp only [List.map_toArray,List.map_cons,List.map_nil]);first|done|rfl|(simp only [List.length_drop,List.length_take];rfl)) ?_
     with_reducible refine (unified_first.calls a0_2 a0_3 t118 _ A12.out).mono ?_
     rintro e w' ⟨rfl,⟨nd,rfl⟩⟩
     refine ⟨_,rfl,?_⟩
     refine hK.out _ _ ⟨(blk_cell BK113.out 0).trans rfl,(blk_cell BK113.out 1).trans rfl,(blk_cell BK113.out 2).trans rfl,(blk_cell BK113.out 3).trans rfl,(blk_cell BK113.out 4).trans rfl⟩ (fun hHeld=>?_)
     clear hK K
     refine norm_ (a':=?_) ?_ ?_
     rotate_left
     ·show Act.put _ (some 30) _=_
      simp only [Act.put,List.setIfInBounds_toArray,List.set_cons_zero,List.set_cons_succ,i64_w,i32_w]
      rfl
     refine pure_ (i:=17) (N:=some 33) (v:=?_) (a':=?_) #[true,true,true,true,true,true,true,true,true,true,true,true,true,true,true,true,true,true,false,false,false] rfl rfl (any_of HT_.out (by kernel_rfl)) (fun _ _ _ h=>h) (Or.inl ⟨by rfl,?_⟩) ?_ ?_
     rotate_left
     ·intro w'
      go_simp
      with_reducible rfl
     rotate_left
     ·simp only [Act.put,List.setIfInBounds_toArray,List.set_cons_zero,List.set_cons_succ,i64_w,i32_w]
      rfl
     refine pure_ (i:=18) (N:=some 34) (v:=?_) (a':=?_) #[true,true,true,true,true,true,true,true,true,true,true,true,true,true,true,true,true,true,true,false,false] rfl rfl (any_of HT_.out (by kernel_rfl)) (fun _ _ _ h=>h) (Or.inl ⟨by rfl,?_⟩) ?_ ?_
     rotate_left
     ·intro w'
      go_simp
      with_reducible rfl
     rotate_left
     ·simp only [Act.put,List.setIfInBounds_toArray,List.set_cons_zero,List.set_cons_succ,i64_w,i32_w]
      rfl
     refine pure_ (i:=19) (N:=some 35) (v:=?_) (a':=?_) #[true,true,true,true,true,true,true,true,true,true,true,true,true,true,true,true,true,true,true,true,false] rfl rfl (any_of HT_.out (by kernel_rfl)) (fun _ _ _ h=>h) (Or.inl ⟨by rfl,?_⟩) ?_ ?_
     rotate_left
     ·intro w'
      go_simp
      with_reducible rfl
     rotate_left
     ·simp only [Act.put,List.setIfInBounds_toArray,List.set_cons_zero,List.set_cons_succ,i64_w,i32_w]
      rfl
     refine pure_ (i:=20) (N:=some 2) (v:=?_) (a':=?_) #[true,true,true,true,true,true,true,true,true,true,true,true,true,true,true,true,true,true,true,true,true] rfl rfl (any_of HT_.out (by kernel_rfl)) (fun _ _ _ h=>h) (Or.inl ⟨by rfl,?_⟩) ?_ ?_
     rotate_left
     ·intro w'
      go_simp
      with_reducible rfl
     rotate_left
     ·simp only [Act.put,List.setIfInBounds_toArray,List.set_cons_zero,List.set_cons_succ,i64_w,i32_w]
      rfl
     refine done_ (done_of HT_.out (by kernel_rfl)) ?_
     try go_wp2
     go_ret
     exact ⟨by first|rfl|(simp [errW_none,errW_some]<;>rfl)|(simp only [← hji13,← hji14,← hji15];first|rfl|(simp [errW_none,errW_some]<;>rfl))|(simp [*,errW_none,errW_some]<;>rfl),by repeat (first|(with_reducible first|exact HB.out|apply below_alloc|apply pw_below_drewN|apply below_drew1|refine below_set ?_ GE113.out)|exact HB.out)⟩
    ·replace c10:=Bool.eq_false_iff.mpr c10
     subst c10
     have H1:(some false)=some r:=by rw [if_neg (show ¬ (false=true) by decide)] at H;exact H
     clear H
     have H:=H1
     clear H1
     obtain rfl:=Option.some.inj H
     try go_wp2
     have n0_:=Aside0.mk (blk_drew BK113.out)
     have n1_:=Aside0.mk (below_drew1 HB.out)
     clear BK113
     clear HB
     have BK113:=n0_
     have HB:=n1_
     clear n0_ n1_
     refine start_ (n:=21) (S:=fun w'=>w'.cell? ⟨gb113,0,none⟩=some (.int .i64 a0_0)∧w'.cell? ⟨gb113,1,none⟩=some (.int .i64 a0_1)∧w'.cell? ⟨gb113,2,none⟩=some (.int .i64 a0_2)∧w'.cell? ⟨gb113,3,none⟩=some (.int .i64 a0_3)∧w'.cell? ⟨gb113,4,none⟩=some (.slice A0_4 l0_4.length c0_4)) (ds:=[]) #[false,false,false,false,false,false,false,false,false,false,false,false,false,false,false,false,false,false,false,false,false] (by kernel_rfl) rfl rfl ⟨(blk_cell BK113.out 0).trans rfl,(blk_cell BK113.out 1).trans rfl,(blk_cell BK113.out 2).trans rfl,(blk_cell BK113.out 3).trans rfl,(blk_cell BK113.out 4).trans rfl⟩ (fun hHeld=>?_);refine with_tabW unified_can.tab7 unified_can.bits7 (fun HT_ HW_=>?_)
     generalize wr.drew=w18 at BK113 HB hHeld ⊢
     refine take_ (i:=0) (N:=some 16) (v:=?_) (a':=?_) #[true,false,false,false,false,false,false,false,false,false,false,false,false,false,false,false,false,false,false,false,false] rfl rfl (take_ofW HT_.out HW_.out (by kernel_rfl)) (fun _ _ _ h=>h) (Or.inl ⟨by rfl,?_⟩) hHeld ?_ ?_
     rotate_left
     ·rintro w' ⟨s0,s1,s2,s3,s4⟩
      go_simp
      with_reducible rfl
     rotate_left
     ·simp only [Act.put,List.setIfInBounds_toArray,List.set_cons_zero,List.set_cons_succ,i64_w,i32_w]
      rfl
     refine one_ (i:=1) (N:=some 17) #[true,true,false,false,false,false,false,false,false,false,false,false,false,false,false,false,false,false,false,false,false] rfl rfl (one_of HT_.out (by kernel_rfl)) (by decide) (fun K hK=>?_)
     refine goes_ Tryd.func52 (by kernel_rfl) rfl #[.agg #[.int .i64 a0_0,.int .i64 a0_1,.int .i64 a0_2,.int .i64 a0_3,.slice A0_4 l0_4.length c0_4]] (by rfl) rfl rfl (by (try simp only [List.map_toArray,List.map_cons,List.map_nil]);first|done|rfl|(simp only [List.length_drop,List.length_take];rfl)) ?_
     with_reducible refine (hunk_Right.calls k1 a0_0 a0_1 a0_2 a0_3 _ _ l0_4 false _ ?side1 ?side2 A9.out).mono ?_
     (case side1=>repeat (first|exact (Kd.C_below HR0_4.out HB.out)|(with_reducible refine Kd.C_alloc ?_ _)|(with_reducible refine Kd.C_drewN ?_ _)|(with_reducible refine Kd.C_drew ?_)))
     (case side2=>exact HC0_4.out)
     rintro e w19 ⟨rfl,hb⟩
     refine ⟨_,rfl,?_⟩
     have n0_:=Aside0.mk (blk_below (g:=gb113) (o:=.cells #[.int .i64 a0_0,.int .i64 a0_1,.int .i64 a0_2,.int .i64 a0_3,.slice A0_4 l0_4.length c0_4] 41 (0,0)) (by (with_reducible repeat (first|refine blk_drewN ?_ _|refine blk_drew ?_|refine blk_alloc ?_ _));exact BK113.out) hb)
     have n1_:=Aside0.mk (below_step (by repeat (first|(with_reducible first|exact HB.out|apply below_alloc|apply pw_below_drewN|apply below_drew1|refine below_set ?_ GE113.out)|exact HB.out)) hb)
     clear BK113
     clear HB
     have BK113:=n0_
     have HB:=n1_
     clear n0_ n1_
     (try clear hb)
     (try clear hb2)
     (try clear hk)
     (try clear hi)
     refine hK.out _ _ ⟨(blk_cell BK113.out 0).trans rfl,(blk_cell BK113.out 1).trans rfl,(blk_cell BK113.out 2).trans rfl,(blk_cell BK113.out 3).trans rfl,(blk_cell BK113.out 4).trans rfl⟩ (fun hHeld=>?_)
     clear hK K
     refine norm_ (a':=?_) ?_ ?_
     rotate_left
     ·show Act.put _ (some 17) _=_
      simp only [Act.put,List.setIfInBounds_toArray,List.set_cons_zero,List.set_cons_succ,i64_w,i32_w]
      rfl
     refine pure_ (i:=2) (N:=some 18) (v:=?_) (a':=?_) #[true,true,true,false,false,false,false,false,false,false,false,false,false,false,false,false,false,false,false,false,false] rfl rfl (any_of HT_.out (by kernel_rfl)) (fun _ _ _ h=>h) (Or.inl ⟨by rfl,?_⟩) ?_ ?_
     rotate_left
     ·intro w'
      go_simp
      with_reducible rfl
     rotate_left
     ·simp only [Act.put,List.setIfInBounds_toArray,List.set_cons_zero,List.set_cons_succ,i64_w,i32_w]
      rfl
     refine pure_ (i:=3) (N:=some 19) (v:=undef) (a':=?_) #[true,true,true,true,false,false,false,false,false,false,false,false,false,false,false,false,false,false,false,false,false] rfl rfl (any_of HT_.out (by kernel_rfl)) (fun _ _ _ h=>h) (Or.inr ⟨by rfl,rfl⟩) ?_ ?_
     rotate_left
     ·simp only [Act.put,List.setIfInBounds_toArray,List.set_cons_zero,List.set_cons_succ,i64_w,i32_w]
      rfl
     refine pure_ (i:=4) (N:=some 20) (v:=undef) (a':=?_) #[true,true,true,true,true,false,false,false,false,false,false,false,false,false,false,false,false,false,false,false,false] rfl rfl (any_of HT_.out (by kernel_rfl)) (fun _ _ _ h=>h) (Or.inr ⟨by rfl,rfl⟩) ?_ ?_
     rotate_left
     ·simp only [Act.put,List.setIfInBounds_toArray,List.set_cons_zero,List.set_cons_succ,i64_w,i32_w]
      rfl
     refine pure_ (i:=5) (N:=some 21) (v:=undef) (a':=?_) #[true,true,true,true,true,true,false,false,false,false,false,false,false,false,false,false,false,false,false,false,false] rfl rfl (any_of HT_.out (by kernel_rfl)) (fun _ _ _ h=>h) (Or.inr ⟨by rfl,rfl⟩) ?_ ?_
     rotate_left
     ·simp only [Act.put,List.setIfInBounds_toArray,List.set_cons_zero,List.set_cons_succ,i64_w,i32_w]
      rfl
     refine pure_ (i:=6) (N:=some 22) (v:=undef) (a':=?_) #[true,true,true,true,true,true,true,false,false,false,false,false,false,false,false,false,false,false,false,false,false] rfl rfl (any_of HT_.out (by kernel_rfl)) (fun _ _ _ h=>h) (Or.inr ⟨by rfl,rfl⟩) ?_ ?_
     rotate_left
     ·simp only [Act.put,List.setIfInBounds_toArray,List.set_cons_zero,List.set_cons_succ,i64_w,i32_w]
      rfl
     refine pure_ (i:=7) (N:=some 23) (v:=undef) (a':=?_) #[true,true,true,true,true,true,true,true,false,false,false,false,false,false,false,false,false,false,false,false,false] rfl rfl (any_of HT_.out (by kernel_rfl)) (fun _ _ _ h=>h) (Or.inr ⟨by rfl,rfl⟩) ?_ ?_
     rotate_left
     ·simp only [Act.put,List.setIfInBounds_toArray,List.set_cons_zero,List.set_cons_succ,i64_w,i32_w]
      rfl
     refine pure_ (i:=8) (N:=some 24) (v:=undef) (a':=?_) #[true,true,true,true,true,true,true,true,true,false,false,false,false,false,false,false,false,false,false,false,false] rfl rfl (any_of HT_.out (by kernel_rfl)) (fun _ _ _ h=>h) (Or.inr ⟨by rfl,rfl⟩) ?_ ?_
     rotate_left
     ·simp only [Act.put,List.setIfInBounds_toArray,List.set_cons_zero,List.set_cons_succ,i64_w,i32_w]
      rfl
     refine pure_ (i:=9) (N:=some 25) (v:=undef) (a':=?_) #[true,true,true,true,true,true,true,true,true,true,false,false,false,false,false,false,false,false,false,false,false] rfl rfl (any_of HT_.out (by kernel_rfl)) (fun _ _ _ h=>h) (Or.inr ⟨by rfl,rfl⟩) ?_ ?_
     rotate_left
     ·simp only [Act.put,List.setIfInBounds_toArray,List.set_cons_zero,List.set_cons_succ,i64_w,i32_w]
      rfl
     refine pure_ (i:=10) (N:=some 26) (v:=undef) (a':=?_) #[true,true,true,true,true,true,true,true,true,true,true,false,false,false,false,false,false,false,false,false,false] rfl rfl (any_of HT_.out (by kernel_rfl)) (fun _ _ _ h=>h) (Or.inr ⟨by rfl,rfl⟩) ?_ ?_
     rotate_left
     ·simp only [Act.put,List.setIfInBounds_toArray,List.set_cons_zero,List.set_cons_succ,i64_w,i32_w]
      rfl
     refine pure_ (i:=11) (N:=some 27) (v:=undef) (a':=?_) #[true,true,true,true,true,true,true,true,true,true,true,true,false,false,false,false,false,false,false,false,false] rfl rfl (any_of HT_.out (by kernel_rfl)) (fun _ _ _ h=>h) (Or.inr ⟨by rfl,rfl⟩) ?_ ?_
     rotate_left
     ·simp only [Act.put,List.setIfInBounds_toArray,List.set_cons_zero,List.set_cons_succ,i64_w,i32_w]
      rfl
     refine pure_ (i:=12) (N:=some 28) (v:=undef) (a':=?_) #[true,true,true,true,true,true,true,true,true,true,true,true,true,false,false,false,false,false,false,false,false] rfl rfl (any_of HT_.out (by kernel_rfl)) (fun _ _ _ h=>h) (Or.inr ⟨by rfl,rfl⟩) ?_ ?_
     rotate_left
     ·simp only [Act.put,List.setIfInBounds_toArray,List.set_cons_zero,List.set_cons_succ,i64_w,i32_w]
      rfl
     refine pure_ (i:=13) (N:=some 29) (v:=undef) (a':=?_) #[true,true,true,true,true,true,true,true,true,true,true,true,true,true,false,false,false,false,false,false,false] rfl rfl (any_of HT_.out (by kernel_rfl)) (fun _ _ _ h=>h) (Or.inr ⟨by rfl,rfl⟩) ?_ ?_
     rotate_left
     ·simp only [Act.put,List.setIfInBounds_toArray,List.set_cons_zero,List.set_cons_succ,i64_w,i32_w]
      rfl
     refine pure_ (i:=14) (N:=some 30) (v:=undef) (a':=?_) #[true,true,true,true,true,true,true,true,true,true,true,true,true,true,true,false,false,false,false,false,false] rfl rfl (any_of HT_.out (by kernel_rfl)) (fun _ _ _ h=>h) (Or.inr ⟨by rfl,rfl⟩) ?_ ?_
     rotate_left
     ·simp only [Act.put,List.setIfInBounds_toArray,List.set_cons_zero,List.set_cons_succ,i64_w,i32_w]
      rfl
     refine pure_ (i:=15) (N:=some 31) (v:=undef) (a':=?_) #[true,true,true,true,true,true,true,true,true,true,true,true,true,true,true,true,false,false,false,false,false] rfl rfl (any_of HT_.out (by kernel_rfl)) (fun _ _ _ h=>h) (Or.inr ⟨by rfl,rfl⟩) ?_ ?_
     rotate_left
     ·simp only [Act.put,List.setIfInBounds_toArray,List.set_cons_zero,List.set_cons_succ,i64_w,i32_w]
      rfl
     refine pure_ (i:=16) (N:=some 32) (v:=undef) (a':=?_) #[true,true,true,true,true,true,true,true,true,true,true,true,true,true,true,true,true,false,false,false,false] rfl rfl (any_of HT_.out (by kernel_rfl)) (fun _ _ _ h=>h) (Or.inr ⟨by rfl,rfl⟩) ?_ ?_
     rotate_left
     ·simp only [Act.put,List.setIfInBounds_toArray,List.set_cons_zero,List.set_cons_succ,i64_w,i32_w]
      rfl
     refine pure_ (i:=17) (N:=some 33) (v:=undef) (a':=?_) #[true,true,true,true,true,true,true,true,true,true,true,true,true,true,true,true,true,true,false,false,false] rfl rfl (any_of HT_.out (by kernel_rfl)) (fun _ _ _ h=>h) (Or.inr ⟨by rfl,rfl⟩) ?_ ?_
     rotate_left
     ·simp only [Act.put,List.setIfInBounds_toArray,List.set_cons_zero,List.set_cons_succ,i64_w,i32_w]
      rfl
     refine pure_ (i:=18) (N:=some 34) (v:=undef) (a':=?_) #[true,true,true,true,true,true,true,true,true,true,true,true,true,true,true,true,true,true,true,false,false] rfl rfl (any_of HT_.out (by kernel_rfl)) (fun _ _ _ h=>h) (Or.inr ⟨by rfl,rfl⟩) ?_ ?_
     rotate_left
     ·simp only [Act.put,List.setIfInBounds_toArray,List.set_cons_zero,List.set_cons_succ,i64_w,i32_w]
      rfl
     refine pure_ (i:=19) (N:=some 35) (v:=?_) (a':=?_) #[true,true,true,true,true,true,true,true,true,true,true,true,true,true,true,true,true,true,true,true,false] rfl rfl (any_of HT_.out (by kernel_rfl)) (fun _ _ _ h=>h) (Or.inl ⟨by rfl,?_⟩) ?_ ?_
     rotate_left
     ·intro w'
      go_simp
      with_reducible rfl
     rotate_left
     ·simp only [Act.put,List.setIfInBounds_toArray,List.set_cons_zero,List.set_cons_succ,i64_w,i32_w]
      rfl
     refine pure_ (i:=20) (N:=some 2) (v:=?_) (a':=?_) #[true,true,true,true,true,true,true,true,true,true,true,true,true,true,true,true,true,true,true,true,true] rfl rfl (any_of HT_.out (by kernel_rfl)) (fun _ _ _ h=>h) (Or.inl ⟨by rfl,?_⟩) ?_ ?_
     rotate_left
     ·intro w'
      go_simp
      with_reducible rfl
     rotate_left
     ·simp only [Act.put,List.setIfInBounds_toArray,List.set_cons_zero,List.set_cons_succ,i64_w,i32_w]
      rfl
     refine done_ (done_of HT_.out (by kernel_rfl)) ?_
     try go_wp2
     go_ret
     exact ⟨by first|rfl|(simp [errW_none,errW_some]<;>rfl)|(simp [*,errW_none,errW_some]<;>rfl),by repeat (first|(with_reducible first|exact HB.out|apply below_alloc|apply pw_below_drewN|apply below_drew1|refine below_set ?_ GE113.out)|exact HB.out)⟩




end Go.Proofs.YtamojbfmphainaaDoor.Pr
-- shrunk
/-
unified.Print.
-/
namespace Go.Proofs.YtamojbfmphainaaDoor.Pr
open Go.RowKit Go.Proofs.YtamojbfmphainaaDoorW.PrintWords Go.Proofs.YtamojbfmphainaaDoorW.PrintLast Go.Proofs.YtamojbfmphainaaDoorW.PrintMore
theorem fromB_size {a b:Int} (h0:0≤a) (h1:a≤2147483648) (h2:0≤b) (h3:b≤2147483648):(fromB a b).size≤50:=by
 have e1:(itoaB (firstI a b)).size≤21:=itoaB_size _ (by rw [firstI];split<;>omega) (by rw [firstI];split<;>omega)
 have e2:(itoaB b).size≤21:=itoaB_size _ (by omega) (by omega)
 rw [fromB,ByteArray.size_append,ByteArray.size_append]
 show (itoaB (firstI a b)).size+1+(itoaB b).size≤50
 omega
def headOf (x:S41):ByteArray:=(⟨#[64,64,32,45]⟩:ByteArray)++fromB x.f0 x.f1++(⟨#[32,43]⟩:ByteArray)++fromB x.f2 x.f3++(⟨#[32,64,64]⟩:ByteArray)++(⟨#[10]⟩:ByteArray)
def tailB:ByteArray:=⟨#[10,92,32,78,111,32,110,101,119,108,105,110,101,32,97,116,32,101,110,100,32,111,102,32,102,105,108,101,10]⟩
def lineOf (s:ByteArray):ByteArray:=if closedL s.data.toList=true then s else s++tailB
def bodyOf:List ByteArray→ByteArray→ByteArray
 | [],out=>out
 | s :: r,out=>bodyOf r (out++lineOf s)
def printL (can:S41→Bool):List S41→ByteArray→ByteArray
 | [],out=>out
 | x :: r,out=>if can x=true then printL can r (bodyOf x.f4 (out++headOf x)) else ⟨#[]⟩
theorem bld_below {T e:TypeId} {B b:Nat} {bs:List Value} {w w':World} (h:Lib.IsBuilderF T e B b bs w) (hb:Below w.heap.size w w'):Lib.IsBuilderF T e B b bs w':=by
 have key:∀ p,Lib.BuilderAtF T e B b p bs w→Lib.BuilderAtF T e B b p bs w':=by
  rintro p ⟨hB,v,hbk,⟨h1,h2⟩,hne⟩
  refine ⟨hB,v,blk_below hbk hb,⟨h1,?_⟩,hne⟩
  rcases h2 with h2|⟨g,cap,cur,fz,hv,hbg,hg,r⟩
  ·exact .inl h2
  ·exact .inr ⟨g,cap,cur,fz,hv,hbg,(hb.block g (Array.getElem?_eq_some_iff.1 hg).1).trans hg,r⟩
 exact h.imp (key _) (key _)
structure PBox (w:World) (b:Nat) (out:ByteArray) (wr:World):Prop where
 bld:Lib.IsBuilderF 47 5 w.heap.size b (Lib.byteCells out.data.toList) wr
 bel:Below w.heap.size w wr
theorem PBox.below {w:World} {b:Nat} {out:ByteArray} {wr w1:World} (h:PBox w b out wr) (hb:Below wr.heap.size wr w1):PBox w b out w1:=⟨bld_below h.bld hb,below_then h.bel h.bel.size hb⟩
theorem PBox.blk {w:World} {b:Nat} {out:ByteArray} {wr:World} (h:PBox w b out wr):∃ cs,wr.heap[b]?=some (.cells cs 47 (0,0)):=by
 rcases h.bld with ⟨_,v,h1,_⟩|⟨_,v,h1,_⟩
 ·exact ⟨_,h1⟩
 ·exact ⟨_,h1⟩
theorem pwrite (w:World) (b:Nat) (out s:ByteArray) (wr:World) (h:PBox w b out wr) (hs:out.size+s.size≤140737488355328) :
  Calls Tryd.prog 23 #[.pointer (some ⟨b,0,none⟩),.string s] wr fun e w'=>e=.returned (.tuple #[.int .i64 s.size,.nilIface])∧PBox w b (out++s) w'∧Lib.OthersKept 5 (some b) wr w' :=
 (bld_write w.heap.size b (Lib.byteCells out.data.toList) s wr h.bld (by rw [Lib.byteCells_length];exact hs) h.bel.size).mono fun e w' hh=>⟨hh.1,⟨by
  have h1:=hh.2.1
  rw [show Lib.strCells s=Lib.byteCells s.data.toList from rfl,← Lib.byteCells_append] at h1
  have e1:(out++s).data.toList=out.data.toList++s.data.toList:=by rw [ByteArray.data_append,Array.toList_append]
  rw [e1];exact h1,h.bel.trans hh.2.2.1⟩,hh.2.2.2⟩
def PrintEnd (can:S41→Bool) (l:List S41) (w:World) (e:Ending) (w':World):Prop:=e=.returned (.string (printL can l ⟨#[]⟩))∧Below w.heap.size w w'
def gprint_7.T7:Bool × List (List Nat × List Nat):=(true,[([],[]),([0],[0]),([],[]),([2],[2]),([1,3],[1,3]),([4],[4]),([5],[5]),([],[]),([7],[7]),([],[]),([9],[9]),([8,10,4],[8,10]),([6,11],[6,11]),([12],[12]),([13],[13]),([14,11],[14])])
def gprint_7.B7:List Nat:=[0,1,0,4,15,31,63,0,128,0,512,1951,4095,8191,16383,32767]
theorem gprint_7.tab7:rtab .any (opsOf Tryd.f10 7)=gprint_7.T7:=by kernel_rfl
theorem gprint_7.bits7:waitsOk gprint_7.T7.2 gprint_7.B7=true:=by kernel_rfl
set_option maxRecDepth 100000 in
set_option maxHeartbeats 8000000 in
theorem print_calls (can:S41→Bool) (A:Option Addr) (c:Nat) (l:List S41) (w:World) (hL:LaidU w) (hr:Kd.C k41 w A l.length l) (hc:l.length≤c)
  (hcan:∀ x ∈ l,Ev (fun k=>unified_can.f k x.f0 x.f1 x.f2 x.f3 x.f4) (can x)) (hok:∀ x ∈ l,can x=true→0≤x.f0∧x.f0≤2147483648∧0≤x.f1∧x.f1≤2147483648∧0≤x.f2∧x.f2≤2147483648∧0≤x.f3∧x.f3≤2147483648)
  (hl:l.length≤1024) (hx:∀ x ∈ l,x.f4.length≤1024∧∀ s ∈ x.f4,s.size≤1048576) :
  Calls Tryd.prog 10 #[.slice A l.length c] w (PrintEnd can l w):=by
 have HL:=Aside0.mk hL
 have HR:=Aside0.mk hr
 have HC:=Aside0.mk hc
 have HCAN:=Aside0.mk hcan
 have HOK:=Aside0.mk hok
 have HX:=Aside0.mk hx
 have HFR:=Aside0.mk (show PBox w w.heap.size ⟨#[]⟩ (w.alloc (.cells #[.pointer none,.slice none 0 0] 47 (0,0))) from ⟨Lib.IsBuilderF.of (Lib.fresh_isBuilder 47 5 w),below_alloc (Below.refl _ _) _⟩)
 obtain ⟨R,hR⟩:∃ R,R=printL can l ⟨#[]⟩:=⟨_,rfl⟩
 have HE:=Aside0.mk (show ∀ e w',e=.returned (.string R)→Below w.heap.size w w'→PrintEnd can l w e w' from fun e w' h1 h2=>⟨by rw [h1,hR],h2⟩)
 have HQ0:=Aside0.mk hR.symm
 clear hL hr hc hcan hok hx hR
 go_enter Tryd.func10,Tryd.ntmps10
 go_upto_block 0 with (fail)
 generalize hw0:w.alloc (.cells #[.pointer none,.slice none 0 0] 47 (0,0))=w0 at HFR ⊢
 generalize hgg:w.heap.size=b at HFR HE ⊢
 have HGG:=Aside0.mk hgg
 clear hgg hw0
 go_wp2_with (fail)
 go_loopg [10] l.length (fun kq v10 wr=>∃ (i:Nat) (out:ByteArray),v10=.int .i64 (i:Int)∧Aside0 (i≤l.length∧l.length≤kq+i∧out.size≤i * 1100000000)∧Aside0 (printL can (l.drop i) out=R)∧Aside0 (PBox w b out wr))
 case atStart=>exact ⟨0,⟨#[]⟩,rfl,⟨by omega,by omega,Nat.zero_le _⟩,HQ0,HFR⟩
 case round =>
  clear HFR HQ0
  obtain ⟨i,out,rfl,HB,HQ,HP⟩:=hrel
  by_cases hend:i=l.length
  ·as_aux_lemma =>
   have f2:decide (i<l.length)=false:=decide_eq_false (by omega)
   have HQ2:=Aside0.mk (show out=R by rw [← HQ.out,List.drop_of_length_le (by omega)];rfl)
   have CS:=Aside0.mk (Tryd.Builder_String_any_f w.heap.size b out.data.toList wr HP.out.bld HP.out.bel.size)
   clear hend
   go_wp2_with (go_at_call 26;(with_reducible refine CS.out.mono ?_);rintro e w1 ⟨rfl,hk,hb⟩;have HB1:=Aside0.mk hb;clear hk hb)
   go_ret
   exact HE.out _ _ (by rw [← HQ2.out];first|done|rfl) (by have h_:=HP.out.bel.trans HB1.out;rw [HGG.out] at h_;exact h_)
  ·have hxl:i<l.length:=by have:=HB.out;omega
   obtain ⟨gk',HGk⟩:∃ m,Aside0 (gk=m+1):=⟨gk - 1,⟨by have:=HB.out;omega⟩⟩
   have f2:decide (i<l.length)=true:=decide_eq_true hxl
   obtain ⟨ad,A4,c4,ea,y0,y1,y2,y3,y4,hc4,hr4⟩:=at_T41 HR.out (i:Int) (by omega) (by omega)
   cases ea
   obtain ⟨x,hx⟩:∃ x,x=rd_T41 l (i:Int):=⟨_,rfl⟩
   have hxi:l[i]?=some x:=by rw [hx,rd_T41,Int.toNat_natCast,List.getD_eq_getElem?_getD,List.getElem?_eq_getElem hxl];rfl
   rw [← hx] at y0 y1 y2 y3 y4 hc4 hr4
   simp only [Int.toNat_natCast] at y0 y1 y2 y3 y4
   replace y0:=pw_cell_below HP.out.bel y0
   replace y1:=pw_cell_below HP.out.bel y1
   replace y2:=pw_cell_below HP.out.bel y2
   replace y3:=pw_cell_below HP.out.bel y3
   replace y4:=pw_cell_below HP.out.bel y4
   have HXI:=Aside0.mk hxi
   have HC4:=Aside0.mk hc4
   have HR4:=Aside0.mk hr4
   have kx:IntKind.i64.wrap ((i:Int)+1)=(i:Int)+1:=IntWalk.i64_in _ (by omega)
   clear hx hxi hc4 hr4 hend
   go_upto_region 5 with (fail)
   have HBX:=Aside0.mk (blk_new wr (.cells #[.int .i64 x.f0,.int .i64 x.f1,.int .i64 x.f2,.int .i64 x.f3,.slice A4 x.f4.length c4] 41 (0,0)))
   have HP1:=Aside0.mk (HP.out.below (below_alloc (Below.refl _ _) (.cells #[.int .i64 x.f0,.int .i64 x.f1,.int .i64 x.f2,.int .i64 x.f3,.slice A4 x.f4.length c4] 41 (0,0))))
   have HR5:=Aside0.mk (Kd.C_below HR4.out HP1.out.bel)
   generalize wr.alloc (.cells #[.int .i64 x.f0,.int .i64 x.f1,.int .i64 x.f2,.int .i64 x.f3,.slice A4 x.f4.length c4] 41 (0,0))=W1 at HBX HP1 HR5 ⊢
   generalize wr.heap.size=g at HBX ⊢
   clear y0 y1 y2 y3 y4
   have hmem:x ∈ l:=List.mem_of_getElem? HXI.out
   obtain ⟨kc,hkc⟩:=(HCAN.out x hmem).rounds
   have HD:=Aside0.mk (show l.drop i=x :: l.drop (i+1) by
    have h_:=HXI.out
    rw [List.getElem?_eq_getElem hxl] at h_
    rw [List.drop_eq_getElem_cons hxl,Option.some.inj h_])
   have z0:W1.cell? ⟨g,0,none⟩=some (.int .i64 x.f0):=(blk_cell HBX.out 0).trans rfl
   have z1:W1.cell? ⟨g,1,none⟩=some (.int .i64 x.f1):=(blk_cell HBX.out 1).trans rfl
   have z2:W1.cell? ⟨g,2,none⟩=some (.int .i64 x.f2):=(blk_cell HBX.out 2).trans rfl
   have z3:W1.cell? ⟨g,3,none⟩=some (.int .i64 x.f3):=(blk_cell HBX.out 3).trans rfl
   have z4:W1.cell? ⟨g,4,none⟩=some (.slice A4 x.f4.length c4):=(blk_cell HBX.out 4).trans rfl
   by_cases hcx:can x=true
   ·have CC:=Aside0.mk (unified_can.calls kc x.f0 x.f1 x.f2 x.f3 A4 c4 x.f4 true W1 HR5.out HC4.out (by rw [← hcx];exact hkc))
    have HOX:=Aside0.mk (HOK.out x hmem hcx)
    have HXX:=Aside0.mk (HX.out x hmem)
    have HQ2:=Aside0.mk (show printL can (l.drop (i+1)) (bodyOf x.f4 (out++headOf x))=R by rw [← HQ.out,HD.out,printL,if_pos hcx])
    clear hcx hkc hmem
    go_upto_region 7 with (go_at_call 22;(with_reducible refine CC.out.mono ?_);rintro e w2 ⟨rfl,hb⟩;have HP2:=Aside0.mk (HP1.out.below hb);have HB2X:=Aside0.mk (blk_below HBX.out hb);clear hb)
    have HL2:=Aside0.mk (HL.out.below HP2.out.bel)
    have HNG:=Aside0.mk (show g≠b from by obtain ⟨cs,h_⟩:=HP2.out.blk;exact blk_ne HB2X.out h_ (by decide))
    clear z0 z1 z2 z3 z4
    obtain ⟨f1,hf1⟩:∃ f,f=fromB x.f0 x.f1:=⟨_,rfl⟩
    obtain ⟨f2,hf2⟩:∃ f,f=fromB x.f2 x.f3:=⟨_,rfl⟩
    have hs1:f1.size≤50:=by rw [hf1];exact fromB_size (by have:=HOX.out;omega) (by have:=HOX.out;omega) (by have:=HOX.out;omega) (by have:=HOX.out;omega)
    have hs2:f2.size≤50:=by rw [hf2];exact fromB_size (by have:=HOX.out;omega) (by have:=HOX.out;omega) (by have:=HOX.out;omega) (by have:=HOX.out;omega)
    have F1:=Aside0.mk (show ∀ W,LaidU W→Calls Tryd.prog 24 #[.int .i64 x.f0,.int .i64 x.f1] W fun e w'=>e=.returned (.string f1)∧Below W.heap.size W w' by intro W hW;rw [hf1];exact from_calls x.f0 x.f1 (by have:=HOX.out;omega) (by have:=HOX.out;omega) (by have:=HOX.out;omega) (by have:=HOX.out;omega) W hW)
    have F2:=Aside0.mk (show ∀ W,LaidU W→Calls Tryd.prog 24 #[.int .i64 x.f2,.int .i64 x.f3] W fun e w'=>e=.returned (.string f2)∧Below W.heap.size W w' by intro W hW;rw [hf2];exact from_calls x.f2 x.f3 (by have:=HOX.out;omega) (by have:=HOX.out;omega) (by have:=HOX.out;omega) (by have:=HOX.out;omega) W hW)
    have HHD:=Aside0.mk (show headOf x=(⟨#[64,64,32,45]⟩:ByteArray)++f1++(⟨#[32,43]⟩:ByteArray)++f2++(⟨#[32,64,64]⟩:ByteArray)++(⟨#[10]⟩:ByteArray) by rw [headOf,← hf1,← hf2])
    have n1:(9223372036854775807<4+f1.size)=False:=eq_false (by omega)
    have n2:(9223372036854775807<4+f1.size+2)=False:=eq_false (by omega)
    have n3:(9223372036854775807<4+f1.size+2+f2.size)=False:=eq_false (by omega)
    have n4:(9223372036854775807<4+f1.size+2+f2.size+3)=False:=eq_false (by omega)
    have n5:(9223372036854775807<4+f1.size+2+f2.size+3+1)=False:=eq_false (by omega)
    have hho:(headOf x).size≤200:=by rw [HHD.out];simp only [ByteArray.size_append];show 4+f1.size+2+f2.size+3+1≤200;omega
    have HHO:=Aside0.mk hho
    have HFF:=Aside0.mk (And.intro hf1 hf2)
    obtain ⟨n0,hn0⟩:∃ n0:Int,n0=((headOf x).size:Int):=⟨_,rfl⟩
    have PW7:=Aside0.mk (show ∀ W,PBox w b out W→Calls Tryd.prog 23 #[.pointer (some ⟨b,0,none⟩),.string ((⟨#[64,64,32,45]⟩:ByteArray)++f1++(⟨#[32,43]⟩:ByteArray)++f2++(⟨#[32,64,64]⟩:ByteArray)++(⟨#[10]⟩:ByteArray))] W fun e w'=>e=.returned (.tuple #[.int .i64 n0,.nilIface])∧PBox w b (out++headOf x) w'∧Lib.OthersKept 5 (some b) W w' by
     intro W h
     rw [← HHD.out,hn0]
     exact pwrite w b out _ W h (by have:=HHO.out;have:=HB.out;omega))
    clear hn0
    clear hf1 hf2 hs1 hs2 hho
    have HP3:=Aside0.mk (HP2.out.below (below_drew (Below.refl _ _)))
    have HB3X:=Aside0.mk (blk_below HB2X.out (below_drew (Below.refl _ _)))
    have HL3:=Aside0.mk (HL2.out.below (below_drew (Below.refl _ _)))
    have z0:w2.drew.cell? ⟨g,0,none⟩=some (.int .i64 x.f0):=(blk_cell HB3X.out 0).trans rfl
    have z1:w2.drew.cell? ⟨g,1,none⟩=some (.int .i64 x.f1):=(blk_cell HB3X.out 1).trans rfl
    have z2:w2.drew.cell? ⟨g,2,none⟩=some (.int .i64 x.f2):=(blk_cell HB3X.out 2).trans rfl
    have z3:w2.drew.cell? ⟨g,3,none⟩=some (.int .i64 x.f3):=(blk_cell HB3X.out 3).trans rfl
    refine start_ (n:=16) (S:=fun w'=>w'.cell? ⟨g,0,none⟩=some (.int .i64 x.f0)∧w'.cell? ⟨g,1,none⟩=some (.int .i64 x.f1)∧w'.cell? ⟨g,2,none⟩=some (.int .i64 x.f2)∧w'.cell? ⟨g,3,none⟩=some (.int .i64 x.f3)) (ds:=[15]) #[false,false,false,false,false,false,false,false,false,false,false,false,false,false,false,false] (by kernel_rfl) rfl rfl ⟨z0,z1,z2,z3⟩ (fun hHeld=>?_)
    refine with_tabW gprint_7.tab7 gprint_7.bits7 (fun HT_ HW_=>?_)
    generalize w2.drew=w3 at HP3 HB3X HL3 z0 z1 z2 z3 hHeld ⊢
    refine pure_ (i:=0) (N:=some 17) (v:=?_) (a':=?_) #[true,false,false,false,false,false,false,false,false,false,false,false,false,false,false,false] rfl rfl (any_of HT_.out (by kernel_rfl)) (fun _ _ _ h=>h) (Or.inl ⟨by rfl,?_⟩) ?_ ?_
    rotate_left
    ·intro w'
     go_simp
     with_reducible rfl
    rotate_left
    ·simp only [Act.put,List.setIfInBounds_toArray,List.set_cons_zero,List.set_cons_succ,i64_w,i32_w]
     rfl
    refine pure_ (i:=2) (N:=some 19) (v:=?_) (a':=?_) #[true,false,true,false,false,false,false,false,false,false,false,false,false,false,false,false] rfl rfl (any_of HT_.out (by kernel_rfl)) (fun _ _ _ h=>h) (Or.inl ⟨by rfl,?_⟩) ?_ ?_
    rotate_left
    ·intro w'
     go_simp
     with_reducible rfl
    rotate_left
    ·simp only [Act.put,List.setIfInBounds_toArray,List.set_cons_zero,List.set_cons_succ,i64_w,i32_w]
     rfl
    refine pure_ (i:=7) (N:=some 24) (v:=?_) (a':=?_) #[true,false,true,false,false,false,false,true,false,false,false,false,false,false,false,false] rfl rfl (any_of HT_.out (by kernel_rfl)) (fun _ _ _ h=>h) (Or.inl ⟨by rfl,?_⟩) ?_ ?_
    rotate_left
    ·intro w'
     go_simp
     with_reducible rfl
    rotate_left
    ·simp only [Act.put,List.setIfInBounds_toArray,List.set_cons_zero,List.set_cons_succ,i64_w,i32_w]
     rfl
    refine pure_ (i:=9) (N:=some 26) (v:=?_) (a':=?_) #[true,false,true,false,false,false,false,true,false,true,false,false,false,false,false,false] rfl rfl (any_of HT_.out (by kernel_rfl)) (fun _ _ _ h=>h) (Or.inl ⟨by rfl,?_⟩) ?_ ?_
    rotate_left
    ·intro w'
     go_simp
     with_reducible rfl
    rotate_left
    ·simp only [Act.put,List.setIfInBounds_toArray,List.set_cons_zero,List.set_cons_succ,i64_w,i32_w]
     rfl
    refine take_ (i:=1) (N:=some 18) (v:=?_) (a':=?_) #[true,true,true,false,false,false,false,true,false,true,false,false,false,false,false,false] rfl rfl (take_ofW HT_.out HW_.out (by kernel_rfl)) (fun _ _ _ h=>h) (Or.inl ⟨by rfl,?_⟩) hHeld ?_ ?_
    rotate_left
    ·rintro w' ⟨s0,s1,s2,s3⟩
     go_simp
     with_reducible rfl
    rotate_left
    ·simp only [Act.put,List.setIfInBounds_toArray,List.set_cons_zero,List.set_cons_succ,i64_w,i32_w]
     rfl
    refine take_ (i:=3) (N:=some 20) (v:=?_) (a':=?_) #[true,true,true,true,false,false,false,true,false,true,false,false,false,false,false,false] rfl rfl (take_ofW HT_.out HW_.out (by kernel_rfl)) (fun _ _ _ h=>h) (Or.inl ⟨by rfl,?_⟩) hHeld ?_ ?_
    rotate_left
    ·rintro w' ⟨s0,s1,s2,s3⟩
     go_simp
     with_reducible rfl
    rotate_left
    ·simp only [Act.put,List.setIfInBounds_toArray,List.set_cons_zero,List.set_cons_succ,i64_w,i32_w]
     rfl
    refine take_ (i:=8) (N:=some 25) (v:=?_) (a':=?_) #[true,true,true,true,false,false,false,true,true,true,false,false,false,false,false,false] rfl rfl (take_ofW HT_.out HW_.out (by kernel_rfl)) (fun _ _ _ h=>h) (Or.inl ⟨by rfl,?_⟩) hHeld ?_ ?_
    rotate_left
    ·rintro w' ⟨s0,s1,s2,s3⟩
     go_simp
     with_reducible rfl
    rotate_left
    ·simp only [Act.put,List.setIfInBounds_toArray,List.set_cons_zero,List.set_cons_succ,i64_w,i32_w]
     rfl
    refine take_ (i:=10) (N:=some 27) (v:=?_) (a':=?_) #[true,true,true,true,false,false,false,true,true,true,true,false,false,false,false,false] rfl rfl (take_ofW HT_.out HW_.out (by kernel_rfl)) (fun _ _ _ h=>h) (Or.inl ⟨by rfl,?_⟩) hHeld ?_ ?_
    rotate_left
    ·rintro w' ⟨s0,s1,s2,s3⟩
     go_simp
     with_reducible rfl
    rotate_left
    ·simp only [Act.put,List.setIfInBounds_toArray,List.set_cons_zero,List.set_cons_succ,i64_w,i32_w]
     rfl
    refine one_ (i:=4) (N:=some 21) #[true,true,true,true,true,false,false,true,true,true,true,false,false,false,false,false] rfl rfl (one_of HT_.out (by kernel_rfl)) (by decide) (fun K hK=>?_)
    refine goes_ Tryd.func24 (by kernel_rfl) rfl #[.int .i64 x.f0,.int .i64 x.f1] (by rfl) rfl rfl (by simp only [List.map_toArray,List.map_cons,List.map_nil];rfl) ?_
    with_reducible refine (F1.out _ HL3.out).mono ?_
    rintro e w5 ⟨rfl,hb⟩
    refine ⟨_,rfl,?_⟩
    have y50:=pw_cell_below hb z0
    have y51:=pw_cell_below hb z1
    have y52:=pw_cell_below hb z2
    have y53:=pw_cell_below hb z3
    have HP5:=Aside0.mk (HP3.out.below hb)
    have HB5X:=Aside0.mk (blk_below HB3X.out hb)
    have HL5:=Aside0.mk (HL3.out.below hb)
    clear hb
    refine hK.out _ _ ⟨y50,y51,y52,y53⟩ (fun hHeld=>?_)
    clear hK K
    refine norm_ (a':=?_) ?_ ?_
    rotate_left
    ·show Act.put _ (some 21) _=_
     simp only [Act.put,List.setIfInBounds_toArray,List.set_cons_zero,List.set_cons_succ,i64_w,i32_w]
     rfl
    refine pure_ (i:=5) (N:=some 22) (v:=?_) (a':=?_) #[true,true,true,true,true,true,false,true,true,true,true,false,false,false,false,false] rfl rfl (any_of HT_.out (by kernel_rfl)) (fun _ _ _ h=>h) (Or.inl ⟨by rfl,?_⟩) ?_ ?_
    rotate_left
    ·intro w'
     go_simp
     with_reducible rfl
    rotate_left
    ·simp only [Act.put,List.setIfInBounds_toArray,List.set_cons_zero,List.set_cons_succ,i64_w,i32_w]
     rfl
    refine pure_ (i:=6) (N:=some 23) (v:=?_) (a':=?_) #[true,true,true,true,true,true,true,true,true,true,true,false,false,false,false,false] rfl rfl (any_of HT_.out (by kernel_rfl)) (fun _ _ _ h=>h) (Or.inl ⟨by rfl,?_⟩) ?_ ?_
    rotate_left
    ·intro w'
     go_simp
     with_reducible rfl
    rotate_left
    ·simp only [Act.put,List.setIfInBounds_toArray,List.set_cons_zero,List.set_cons_succ,i64_w,i32_w]
     rfl
    refine one_ (i:=11) (N:=some 28) #[true,true,true,true,true,true,true,true,true,true,true,true,false,false,false,false] rfl rfl (one_of HT_.out (by kernel_rfl)) (by decide) (fun K hK=>?_)
    refine goes_ Tryd.func24 (by kernel_rfl) rfl #[.int .i64 x.f2,.int .i64 x.f3] (by rfl) rfl rfl (by simp only [List.map_toArray,List.map_cons,List.map_nil];rfl) ?_
    with_reducible refine (F2.out _ HL5.out).mono ?_
    rintro e w6 ⟨rfl,hb⟩
    refine ⟨_,rfl,?_⟩
    have y60:=pw_cell_below hb y50
    have y61:=pw_cell_below hb y51
    have y62:=pw_cell_below hb y52
    have y63:=pw_cell_below hb y53
    have HP6:=Aside0.mk (HP5.out.below hb)
    have HB6X:=Aside0.mk (blk_below HB5X.out hb)
    have HL6:=Aside0.mk (HL5.out.below hb)
    clear hb
    refine hK.out _ _ ⟨y60,y61,y62,y63⟩ (fun hHeld=>?_)
    clear hK K
    refine norm_ (a':=?_) ?_ ?_
    rotate_left
    ·show Act.put _ (some 28) _=_
     simp only [Act.put,List.setIfInBounds_toArray,List.set_cons_zero,List.set_cons_succ,i64_w,i32_w]
     rfl
    refine pure_ (i:=12) (N:=some 29) (v:=?_) (a':=?_) #[true,true,true,true,true,true,true,true,true,true,true,true,true,false,false,false] rfl rfl (any_of HT_.out (by kernel_rfl)) (fun _ _ _ h=>h) (Or.inl ⟨by rfl,?_⟩) ?_ ?_
    rotate_left
    ·intro w'
     go_simp
     with_reducible rfl
    rotate_left
    ·simp only [Act.put,List.setIfInBounds_toArray,List.set_cons_zero,List.set_cons_succ,i64_w,i32_w]
     rfl
    refine pure_ (i:=13) (N:=some 30) (v:=?_) (a':=?_) #[true,true,true,true,true,true,true,true,true,true,true,true,true,true,false,false] rfl rfl (any_of HT_.out (by kernel_rfl)) (fun _ _ _ h=>h) (Or.inl ⟨by rfl,?_⟩) ?_ ?_
    rotate_left
    ·intro w'
     go_simp
     with_reducible rfl
    rotate_left
    ·simp only [Act.put,List.setIfInBounds_toArray,List.set_cons_zero,List.set_cons_succ,i64_w,i32_w]
     rfl
    refine pure_ (i:=14) (N:=some 31) (v:=?_) (a':=?_) #[true,true,true,true,true,true,true,true,true,true,true,true,true,true,true,false] rfl rfl (any_of HT_.out (by kernel_rfl)) (fun _ _ _ h=>h) (Or.inl ⟨by rfl,?_⟩) ?_ ?_
    rotate_left
    ·intro w'
     go_simp
     with_reducible rfl
    rotate_left
    ·simp only [Act.put,List.setIfInBounds_toArray,List.set_cons_zero,List.set_cons_succ,i64_w,i32_w]
     rfl
    refine last_ (i:=15) (N:=some 32) #[true,true,true,true,true,true,true,true,true,true,true,true,true,true,true,true] rfl rfl (one_of HT_.out (by kernel_rfl)) (by decide) (fun K hK=>?_)
    refine goes_ Tryd.func23 (by kernel_rfl) rfl #[.pointer (some ⟨b,0,none⟩),.string ((⟨#[64,64,32,45]⟩:ByteArray)++f1++(⟨#[32,43]⟩:ByteArray)++f2++(⟨#[32,64,64]⟩:ByteArray)++(⟨#[10]⟩:ByteArray))] (by rfl) rfl rfl (by simp only [List.map_toArray,List.map_cons,List.map_nil];rfl) ?_
    with_reducible refine (PW7.out _ HP6.out).mono ?_
    rintro e w7 ⟨rfl,h7,hk7⟩
    refine ⟨_,rfl,?_⟩
    have HP7:=Aside0.mk h7
    have HB7X:=Aside0.mk (hk7 _ _ HB6X.out (by intro e;injection e with e;exact HNG.out e) (fun c fz e=>by cases e))
    clear h7 hk7
    refine hK.out _ _ ?_
    clear hK K
    refine norm_ (a':=?_) ?_ ?_
    rotate_left
    ·show Act.put _ (some 32) _=_
     simp only [Act.put,List.setIfInBounds_toArray,List.set_cons_zero,List.set_cons_succ,i64_w,i32_w]
     rfl
    refine done_ (done_of HT_.out (by kernel_rfl)) ?_

    clear z0 z1 z2 z3 n1 n2 n3 n4 n5 hHeld
    have z4:w7.cell? ⟨g,4,none⟩=some (.slice A4 x.f4.length c4):=(blk_cell HB7X.out 4).trans rfl
    have HP8:=HP7
    go_upto_block 2 with (fail)
    clear z4
    go_wp2_with (fail)
    go_loopg [36] x.f4.length (fun kr v36 wi=>∃ (j:Nat) (o:ByteArray),v36=.int .i64 (j:Int)∧Aside0 (j≤x.f4.length∧x.f4.length≤kr+j∧o.size≤i * 1100000000+200+j * 1048700)∧Aside0 (bodyOf (x.f4.drop j) o=bodyOf x.f4 (out++headOf x))∧Aside0 (PBox w b o wi))
    case atStart=>exact ⟨0,out++headOf x,rfl,⟨by have:=HB.out;have:=HHO.out;rw [ByteArray.size_append];omega⟩,⟨rfl⟩,HP8⟩
    case round =>
     obtain ⟨j,o,rfl,HBJ,HQJ,HPJ⟩:=hrel
     by_cases hej:j=x.f4.length
     ·as_aux_lemma =>
      have f3:decide (j<x.f4.length)=false:=decide_eq_false (by omega)
      have HQ4:=Aside0.mk (show printL can (l.drop (i+1)) o=R by rw [← HQ2.out,← HQJ.out,show x.f4.drop j=[] from List.drop_of_length_le (by omega)];rfl)
      have HOB:=Aside0.mk (show o.size≤(i+1) * 1100000000 by have:=HBJ.out;have:=HXX.out.1;omega)
      clear hej
      go_wp2
      go_roundg gk'
      case measure=>have:=HGk.out;omega
      case rel=>exact ⟨i+1,o,by go_num,⟨by have:=HB.out;have:=HGk.out;have:=HOB.out;omega⟩,HQ4,HPJ⟩
     ·have hjl:j<x.f4.length:=by have:=HBJ.out;omega
      obtain ⟨gr',HGr⟩:∃ m,Aside0 (gk=m+1):=⟨gk - 1,⟨by have:=HBJ.out;omega⟩⟩
      have f3:decide (j<x.f4.length)=true:=decide_eq_true hjl
      obtain ⟨ae,ee,hs1⟩:=at_textA (Kd.C_below HR4.out HPJ.out.bel) j hjl
      cases ee
      obtain ⟨s,hs⟩:∃ s,s=x.f4[j]:=⟨_,rfl⟩
      rw [← hs] at hs1
      have HSZ:=Aside0.mk (show s.size≤1048576 by rw [hs];exact HXX.out.2 _ (List.getElem_mem hjl))
      have HDJ:=Aside0.mk (show x.f4.drop j=s :: x.f4.drop (j+1) by rw [hs];exact List.drop_eq_getElem_cons hjl)
      have ky:IntKind.i64.wrap ((j:Int)+1)=(j:Int)+1:=IntWalk.i64_in _ (by have:=HXX.out.1;omega)
      have PW:=Aside0.mk (pwrite w b o s wr HPJ.out (by have:=HBJ.out;have:=HSZ.out;have:=HB.out;have:=HXX.out.1;omega))
      have PW2:=Aside0.mk (show ∀ W,PBox w b (o++s) W→Calls Tryd.prog 23 #[.pointer (some ⟨b,0,none⟩),.string ⟨#[10,92,32,78,111,32,110,101,119,108,105,110,101,32,97,116,32,101,110,100,32,111,102,32,102,105,108,101,10]⟩] W fun e w'=>e=.returned (.tuple #[.int .i64 29,.nilIface])∧PBox w b (o++s++tailB) w' from fun W h=>(pwrite w b (o++s) tailB W h (by rw [ByteArray.size_append];show o.size+s.size+29≤_;have:=HBJ.out;have:=HSZ.out;have:=HB.out;have:=HXX.out.1;omega)).mono fun e w' hh=>⟨hh.1,hh.2.1⟩)
      have HXL:=Aside0.mk hjl
      clear hs hej
      by_cases hcl:closedL s.data.toList=true
      ·as_aux_lemma =>
       have CL:=Aside0.mk (show lines_Closed.f s=some true by rw [← hcl];exact Closed_some s (by have:=HSZ.out;omega))
       have HLO:=Aside0.mk (show bodyOf (x.f4.drop (j+1)) (o++s)=bodyOf x.f4 (out++headOf x) by rw [← HQJ.out,HDJ.out,bodyOf,lineOf,if_pos hcl])
       clear hcl
       go_wp2_with (first
        | (go_at_call 23;(with_reducible refine PW.out.mono ?_);rintro e w8 ⟨rfl,h8,_⟩;have HP9:=Aside0.mk h8;clear h8)
        | (go_at_call 25;(with_reducible refine (lines_Closed.calls s true _ CL.out).mono ?_);rintro e w9 ⟨rfl,⟨nd,rfl⟩⟩))
       go_roundg gr'
       case measure=>have:=HGr.out;omega
       case rel=>exact ⟨j+1,o++s,by go_num,⟨by have:=HBJ.out;have:=HGr.out;have:=HXL.out;have:=HSZ.out;rw [ByteArray.size_append];omega⟩,HLO,⟨HP9.out.below (pw_below_drewN (Below.refl _ _) _)⟩⟩
      ·as_aux_lemma =>
       have CL:=Aside0.mk (show lines_Closed.f s=some false by rw [← Bool.eq_false_iff.2 hcl];exact Closed_some s (by have:=HSZ.out;omega))
       have HLO:=Aside0.mk (show bodyOf (x.f4.drop (j+1)) (o++s++tailB)=bodyOf x.f4 (out++headOf x) by rw [← HQJ.out,HDJ.out,bodyOf,lineOf,if_neg hcl,ByteArray.append_assoc])
       clear hcl
       go_wp2_with (first
        | (go_at_call 23;(with_reducible refine PW.out.mono ?_);rintro e w8 ⟨rfl,h8,_⟩;have HP9:=Aside0.mk h8;clear h8)
        | (go_at_call 23;(with_reducible refine (PW2.out _ (HP9.out.below (pw_below_drewN (Below.refl _ _) _))).mono ?_);rintro e wa ⟨rfl,ha⟩;have HPA:=Aside0.mk ha;clear ha)
        | (go_at_call 25;(with_reducible refine (lines_Closed.calls s false _ CL.out).mono ?_);rintro e w9 ⟨rfl,⟨nd,rfl⟩⟩))
       go_roundg gr'
       case measure=>have:=HGr.out;omega
       case rel=>exact ⟨j+1,o++s++tailB,by go_num,⟨by have:=HBJ.out;have:=HGr.out;have:=HXL.out;have:=HSZ.out;rw [ByteArray.size_append,ByteArray.size_append];show _∧_∧o.size+s.size+29≤_;omega⟩,HLO,HPA⟩
   ·have CC:=Aside0.mk (unified_can.calls kc x.f0 x.f1 x.f2 x.f3 A4 c4 x.f4 false W1 HR5.out HC4.out (by rw [← Bool.eq_false_iff.2 hcx];exact hkc))
    have HR2:=Aside0.mk (show (⟨#[]⟩:ByteArray)=R by rw [← HQ.out,HD.out,printL,if_neg hcx])
    clear hcx hkc hmem
    go_wp2_with (go_at_call 22;(with_reducible refine CC.out.mono ?_);rintro e w2 ⟨rfl,hb⟩;have HP2:=Aside0.mk (HP1.out.below hb);clear hb)
    go_ret
    exact HE.out _ _ (by rw [← HR2.out];first|done|rfl) (by have h_:=HP2.out.bel;rw [HGG.out] at h_;exact h_)
end Go.Proofs.YtamojbfmphainaaDoor.Pr
-- shrunk
-- written by a program of this session's (a turned copy of the kit's printer); Lean checks it
namespace Go.Proofs.YtamojbfmphainaaDoor.Pr
open Go.RowKit Go.Proofs.YtamojbfmphainaaDoorW.PrintWords Go.Proofs.YtamojbfmphainaaDoorW.PrintLast Go.Proofs.YtamojbfmphainaaDoorW.PrintMore
attribute [local go_sem] max2_int min2_int max_two min_two max_three min_three max_four min_four   -- for this text's walks alone

def r05_Many.l0:Nat→List ByteArray→Int→Int→Int→Option (Int)
 | 0,_,_,_,_=>none
 | k+1,x0,x1,x5,x6=>if x6<(x0.length:Int) then (if 0≤x6 then (if ((rdOf ByteArray.empty x0 x6).size:Int) > 0 then (if 0<((rdOf ByteArray.empty x0 x6).size:Int) then (if (bt (rdOf ByteArray.empty x0 x6) 0)=32 then (r05_Many.l0 k x0 x1 (wrap64 (x5+1)) (wrap64 (x6+1))) else (if (bt (rdOf ByteArray.empty x0 x6) 0)=x1 then (r05_Many.l0 k x0 x1 (wrap64 (x5+1)) (wrap64 (x6+1))) else (r05_Many.l0 k x0 x1 x5 (wrap64 (x6+1))))) else (none)) else (r05_Many.l0 k x0 x1 x5 (wrap64 (x6+1)))) else (none)) else (some x5)
def r05_Many.f (k:Nat) (l0:List ByteArray) (a1:Int):Option (Int):=r05_Many.l0 k l0 a1 0 0
set_option maxHeartbeats 8000000 in
set_option maxRecDepth 100000 in
theorem r05_Many.calls (k:Nat) (A0:Option Addr) (c0:Nat) (l0:List ByteArray) (a1:Int) (r:Int) (w:World) (hr0:Kd.C Kd.string w A0 l0.length l0) (hc0:l0.length≤c0) (h:r05_Many.f k l0 a1=some r) :
  Calls Tryd.prog 36 #[.slice A0 l0.length c0,.int .u8 a1] w fun e w'=>e=.returned (.int .i64 r)∧Drawn0 w w':=by
 have HR0:=Aside0.mk hr0
 have HC0:=Aside0.mk hc0
 clear hr0 hc0
 have H:(r05_Many.l0 k l0 a1 0 0)=some r:=h
 clear h
 have H':=Aside0.mk H
 clear H
 go_enter Tryd.func36,Tryd.ntmps36
 go_wp2
 go_loopg [5,6] k (fun kq v5 v6 w'=>∃ (x5_1:Int) (x6_1:Int),v5=.int .i64 x5_1∧v6=.int .i64 x6_1∧Aside0 (r05_Many.l0 kq l0 a1 x5_1 x6_1=some r)∧Aside0 (kq≤k)∧Drawn0 w w')
 case atStart=>exact ⟨(0),(0),(by first|rfl|(simp;done)|(simp [*];done)),(by first|rfl|(simp;done)|(simp [*];done)),H',⟨Nat.le_refl _⟩,by repeat (first|exact Drawn0.refl _|apply Drawn0.step)⟩
 case round =>
  clear H'
  try clear p2
  obtain ⟨x5_1,x6_1,rfl,rfl,HA,HK1,⟨m1,rfl⟩⟩:=hrel
  cases gk with
  | zero=>exact absurd HA.out (by simp [r05_Many.l0])
  | succ k1 =>
   have H:=HA.out
   clear HA
   simp only [r05_Many.l0] at H
   by_cases c3:x6_1<(l0.length:Int)
   ·rw [if_pos c3] at H
    have c3b0:decide (x6_1<(l0.length:Int))=true:=decide_eq_true c3
    clear c3
    by_cases c4:0≤x6_1
    ·rw [if_pos c4] at H
     have c4b0:decide (0≤x6_1)=true:=decide_eq_true c4
     clear c4
     by_cases c5:((rdOf ByteArray.empty l0 x6_1).size:Int) > 0
     ·rw [if_pos c5] at H
      have c5b0:decide (0<((rdOf ByteArray.empty l0 x6_1).size:Int))=true:=decide_eq_true c5
      have c5b1:decide (0<(rdOf ByteArray.empty l0 x6_1).size)=true:=decide_eq_true (by omega)
      clear c5
      by_cases c6:0<((rdOf ByteArray.empty l0 x6_1).size:Int)
      ·rw [if_pos c6] at H
       have c6b0:decide (0<((rdOf ByteArray.empty l0 x6_1).size:Int))=true:=decide_eq_true c6
       have c6b1:decide (0<(rdOf ByteArray.empty l0 x6_1).size)=true:=decide_eq_true (by omega)
       clear c6
       by_cases c8:(bt (rdOf ByteArray.empty l0 x6_1) 0)=32
       ·rw [if_pos c8] at H
        have c8b0:((bt (rdOf ByteArray.empty l0 x6_1) 0) == 32)=true:=beq_iff_eq.mpr c8
        have c8b1:((bt (rdOf ByteArray.empty l0 x6_1) 0) != 32)=false:=bne_eq_false_iff_eq.mpr c8
        clear c8
        have H':=Aside0.mk H
        clear H
        have p162:0≤(x6_1:Int):=of_decide_eq_true (by first|(with_reducible assumption)|assumption)
        have q162:x6_1<(l0.length:Int):=of_decide_eq_true (by first|(with_reducible assumption)|assumption)
        obtain ⟨ad162,e162,hx162_0⟩:=Kd.at_string HR0.out x6_1 p162 q162
        cases e162
        replace p162:=eq_true p162
        replace q162:=eq_true q162
        have p163:0≤(x6_1:Int):=of_decide_eq_true (by first|(with_reducible assumption)|assumption)
        have q163:x6_1<(l0.length:Int):=of_decide_eq_true (by first|(with_reducible assumption)|assumption)
        obtain ⟨ad163,e163,hx163_0⟩:=Kd.at_string HR0.out x6_1 p163 q163
        obtain rfl:ad162=ad163:=(by injection e163)
        replace p163:=eq_true p163
        replace q163:=eq_true q163
        have p7:0≤(0:Int):=(by omega)
        have q7:0<(rdOf ByteArray.empty l0 x6_1).size:=(by have:(0:Int)<((rdOf ByteArray.empty l0 x6_1).size:Int):=of_decide_eq_true (by first|(with_reducible assumption)|assumption);omega)
        have hx7:∀ h:0<(rdOf ByteArray.empty l0 x6_1).size,(((rdOf ByteArray.empty l0 x6_1)[0]'h).toNat:Int)=bt (rdOf ByteArray.empty l0 x6_1) 0:=bt_at (rdOf ByteArray.empty l0 x6_1) 0
        clear p7
        have qi7:(0<((rdOf ByteArray.empty l0 x6_1).size:Int))=True:=eq_true (of_decide_eq_true (by first|(with_reducible assumption)|assumption))
        replace q7:=eq_true q7
        go_wp2
        go_roundg k1
        case measure=>have:=HK1.out;omega
        case rel=>exact ⟨(wrap64 (x5_1+1)),(wrap64 (x6_1+1)),(by first|rfl|(simp;done)|(simp [*];done)),(by first|rfl|(simp;done)|(simp [*];done)),H',⟨by have:=HK1.out;omega⟩,by repeat (first|exact Drawn0.refl _|apply Drawn0.step)⟩
       ·rw [if_neg c8] at H
        have c8b0:((bt (rdOf ByteArray.empty l0 x6_1) 0) == 32)=false:=beq_eq_false_iff_ne.mpr c8
        have c8b1:((bt (rdOf ByteArray.empty l0 x6_1) 0) != 32)=true:=bne_iff_ne.mpr c8
        by_cases c10:(bt (rdOf ByteArray.empty l0 x6_1) 0)=a1
        ·rw [if_pos c10] at H
         have c10b0:((bt (rdOf ByteArray.empty l0 x6_1) 0) == a1)=true:=beq_iff_eq.mpr c10
         have c10b1:((bt (rdOf ByteArray.empty l0 x6_1) 0) != a1)=false:=bne_eq_false_iff_eq.mpr c10
         clear c10
         have H':=Aside0.mk H
         clear H
         have p162:0≤(x6_1:Int):=of_decide_eq_true (by first|(with_reducible assumption)|assumption)
         have q162:x6_1<(l0.length:Int):=of_decide_eq_true (by first|(with_reducible assumption)|assumption)
         obtain ⟨ad162,e162,hx162_0⟩:=Kd.at_string HR0.out x6_1 p162 q162
         cases e162
         replace p162:=eq_true p162
         replace q162:=eq_true q162
         have p163:0≤(x6_1:Int):=of_decide_eq_true (by first|(with_reducible assumption)|assumption)
         have q163:x6_1<(l0.length:Int):=of_decide_eq_true (by first|(with_reducible assumption)|assumption)
         obtain ⟨ad163,e163,hx163_0⟩:=Kd.at_string HR0.out x6_1 p163 q163
         obtain rfl:ad162=ad163:=(by injection e163)
         replace p163:=eq_true p163
         replace q163:=eq_true q163
         have p7:0≤(0:Int):=(by omega)
         have q7:0<(rdOf ByteArray.empty l0 x6_1).size:=(by have:(0:Int)<((rdOf ByteArray.empty l0 x6_1).size:Int):=of_decide_eq_true (by first|(with_reducible assumption)|assumption);omega)
         have hx7:∀ h:0<(rdOf ByteArray.empty l0 x6_1).size,(((rdOf ByteArray.empty l0 x6_1)[0]'h).toNat:Int)=bt (rdOf ByteArray.empty l0 x6_1) 0:=bt_at (rdOf ByteArray.empty l0 x6_1) 0
         clear p7
         have qi7:(0<((rdOf ByteArray.empty l0 x6_1).size:Int))=True:=eq_true (of_decide_eq_true (by first|(with_reducible assumption)|assumption))
         replace q7:=eq_true q7
         have p164:0≤(x6_1:Int):=of_decide_eq_true (by first|(with_reducible assumption)|assumption)
         have q164:x6_1<(l0.length:Int):=of_decide_eq_true (by first|(with_reducible assumption)|assumption)
         obtain ⟨ad164,e164,hx164_0⟩:=Kd.at_string HR0.out x6_1 p164 q164
         obtain rfl:ad162=ad164:=(by injection e164)
         replace p164:=eq_true p164
         replace q164:=eq_true q164
         have p9:0≤(0:Int):=(by omega)
         have q9:0<(rdOf ByteArray.empty l0 x6_1).size:=(by have:(0:Int)<((rdOf ByteArray.empty l0 x6_1).size:Int):=of_decide_eq_true (by first|(with_reducible assumption)|assumption);omega)
         have hx9:∀ h:0<(rdOf ByteArray.empty l0 x6_1).size,(((rdOf ByteArray.empty l0 x6_1)[0]'h).toNat:Int)=bt (rdOf ByteArray.empty l0 x6_1) 0:=bt_at (rdOf ByteArray.empty l0 x6_1) 0
         clear p9
         have qi9:(0<((rdOf ByteArray.empty l0 x6_1).size:Int))=True:=eq_true (of_decide_eq_true (by first|(with_reducible assumption)|assumption))
         replace q9:=eq_true q9
         go_wp2
         go_roundg k1
         case measure=>have:=HK1.out;omega
         case rel=>exact ⟨(wrap64 (x5_1+1)),(wrap64 (x6_1+1)),(by first|rfl|(simp;done)|(simp [*];done)),(by first|rfl|(simp;done)|(simp [*];done)),H',⟨by have:=HK1.out;omega⟩,by repeat (first|exact Drawn0.refl _|apply Drawn0.step)⟩
        ·rw [if_neg c10] at H
         have c10b0:((bt (rdOf ByteArray.empty l0 x6_1) 0) == a1)=false:=beq_eq_false_iff_ne.mpr c10
         have c10b1:((bt (rdOf ByteArray.empty l0 x6_1) 0) != a1)=true:=bne_iff_ne.mpr c10
         have H':=Aside0.mk H
         clear H
         have p162:0≤(x6_1:Int):=of_decide_eq_true (by first|(with_reducible assumption)|assumption)
         have q162:x6_1<(l0.length:Int):=of_decide_eq_true (by first|(with_reducible assumption)|assumption)
         obtain ⟨ad162,e162,hx162_0⟩:=Kd.at_string HR0.out x6_1 p162 q162
         cases e162
         replace p162:=eq_true p162
         replace q162:=eq_true q162
         have p163:0≤(x6_1:Int):=of_decide_eq_true (by first|(with_reducible assumption)|assumption)
         have q163:x6_1<(l0.length:Int):=of_decide_eq_true (by first|(with_reducible assumption)|assumption)
         obtain ⟨ad163,e163,hx163_0⟩:=Kd.at_string HR0.out x6_1 p163 q163
         obtain rfl:ad162=ad163:=(by injection e163)
         replace p163:=eq_true p163
         replace q163:=eq_true q163
         have p7:0≤(0:Int):=(by omega)
         have q7:0<(rdOf ByteArray.empty l0 x6_1).size:=(by have:(0:Int)<((rdOf ByteArray.empty l0 x6_1).size:Int):=of_decide_eq_true (by first|(with_reducible assumption)|assumption);omega)
         have hx7:∀ h:0<(rdOf ByteArray.empty l0 x6_1).size,(((rdOf ByteArray.empty l0 x6_1)[0]'h).toNat:Int)=bt (rdOf ByteArray.empty l0 x6_1) 0:=bt_at (rdOf ByteArray.empty l0 x6_1) 0
         clear p7
         have qi7:(0<((rdOf ByteArray.empty l0 x6_1).size:Int))=True:=eq_true (of_decide_eq_true (by first|(with_reducible assumption)|assumption))
         replace q7:=eq_true q7
         have p164:0≤(x6_1:Int):=of_decide_eq_true (by first|(with_reducible assumption)|assumption)
         have q164:x6_1<(l0.length:Int):=of_decide_eq_true (by first|(with_reducible assumption)|assumption)
         obtain ⟨ad164,e164,hx164_0⟩:=Kd.at_string HR0.out x6_1 p164 q164
         obtain rfl:ad162=ad164:=(by injection e164)
         replace p164:=eq_true p164
         replace q164:=eq_true q164
         have p9:0≤(0:Int):=(by omega)
         have q9:0<(rdOf ByteArray.empty l0 x6_1).size:=(by have:(0:Int)<((rdOf ByteArray.empty l0 x6_1).size:Int):=of_decide_eq_true (by first|(with_reducible assumption)|assumption);omega)
         have hx9:∀ h:0<(rdOf ByteArray.empty l0 x6_1).size,(((rdOf ByteArray.empty l0 x6_1)[0]'h).toNat:Int)=bt (rdOf ByteArray.empty l0 x6_1) 0:=bt_at (rdOf ByteArray.empty l0 x6_1) 0
         clear p9
         have qi9:(0<((rdOf ByteArray.empty l0 x6_1).size:Int))=True:=eq_true (of_decide_eq_true (by first|(with_reducible assumption)|assumption))
         replace q9:=eq_true q9
         go_wp2
         go_roundg k1
         case measure=>have:=HK1.out;omega
         case rel=>exact ⟨(x5_1),(wrap64 (x6_1+1)),(by first|rfl|(simp;done)|(simp [*];done)),(by first|rfl|(simp;done)|(simp [*];done)),H',⟨by have:=HK1.out;omega⟩,by repeat (first|exact Drawn0.refl _|apply Drawn0.step)⟩
      ·rw [if_neg c6] at H
       exact absurd H (by simp)
     ·rw [if_neg c5] at H
      have c5b0:decide (0<((rdOf ByteArray.empty l0 x6_1).size:Int))=false:=decide_eq_false c5
      have c5b1:decide (0<(rdOf ByteArray.empty l0 x6_1).size)=false:=decide_eq_false (by omega)
      clear c5
      have H':=Aside0.mk H
      clear H
      have p162:0≤(x6_1:Int):=of_decide_eq_true (by first|(with_reducible assumption)|assumption)
      have q162:x6_1<(l0.length:Int):=of_decide_eq_true (by first|(with_reducible assumption)|assumption)
      obtain ⟨ad162,e162,hx162_0⟩:=Kd.at_string HR0.out x6_1 p162 q162
      cases e162
      replace p162:=eq_true p162
      replace q162:=eq_true q162
      go_wp2
      go_roundg k1
      case measure=>have:=HK1.out;omega
      case rel=>exact ⟨(x5_1),(wrap64 (x6_1+1)),(by first|rfl|(simp;done)|(simp [*];done)),(by first|rfl|(simp;done)|(simp [*];done)),H',⟨by have:=HK1.out;omega⟩,by repeat (first|exact Drawn0.refl _|apply Drawn0.step)⟩
    ·rw [if_neg c4] at H
     exact absurd H (by simp)
   ·rw [if_neg c3] at H
    have c3b0:decide (x6_1<(l0.length:Int))=false:=decide_eq_false c3
    clear c3
    obtain rfl:=Option.some.inj H
    go_wp2
    go_ret
    exact ⟨by first|rfl|(simp;done)|(simp [*];done),by repeat (first|exact Drawn0.refl _|apply Drawn0.step)⟩

end Go.Proofs.YtamojbfmphainaaDoor.Pr
-- shrunk
-- written by a program of this session's (a turned copy of the kit's printer); Lean checks it
namespace Go.Proofs.YtamojbfmphainaaDoor.Pr
open Go.RowKit Go.Proofs.YtamojbfmphainaaDoorW.PrintWords Go.Proofs.YtamojbfmphainaaDoorW.PrintLast Go.Proofs.YtamojbfmphainaaDoorW.PrintMore
attribute [local go_sem] max2_int min2_int max_two min_two max_three min_three max_four min_four   -- for this text's walks alone

mutual
def r05_Right.l0:Nat→Int→Int→Int→Int→Int→List ByteArray→Option (Bool)
 | 0,_,_,_,_,_,_=>none
 | k+1,x3,x166000,x166001,x166002,x166003,x166004=>if x3<(x166004.length:Int) then (if 0≤x3 then (if ((rdOf ByteArray.empty x166004 x3).size:Int)=0 then (some false) else (if 0<((rdOf ByteArray.empty x166004 x3).size:Int) then (if (bt (rdOf ByteArray.empty x166004 x3) 0)=32 then (r05_Right.j1 k x3 (rdOf ByteArray.empty x166004 x3) false x166000 x166001 x166002 x166003 x166004) else (if (bt (rdOf ByteArray.empty x166004 x3) 0)=43 then (r05_Right.j1 k x3 (rdOf ByteArray.empty x166004 x3) false x166000 x166001 x166002 x166003 x166004) else (r05_Right.j1 k x3 (rdOf ByteArray.empty x166004 x3) ((bt (rdOf ByteArray.empty x166004 x3) 0) != 45) x166000 x166001 x166002 x166003 x166004))) else (none))) else (none)) else (if x166000 ≥ 0 then (if x166002 ≥ 0 then ((r05_Many.f k x166004 45).bind fun t166=>(if x166001=t166 then ((r05_Many.f k x166004 43).bind fun t167=>(some (x166003 == t167))) else (some false))) else (some false)) else (some false))
def r05_Right.j1:Nat→Int→ByteArray→Bool→Int→Int→Int→Int→List ByteArray→Option (Bool)
 | 0,_,_,_,_,_,_,_,_=>none
 | k+1,x3,x4,x32,x166000,x166001,x166002,x166003,x166004=>if x32=true then (some false) else (if x3 > 0 then (if 0<(x4.size:Int) then (if (bt x4 0)=45 then (if 0≤(wrap64 (x3 - 1)) then (if (wrap64 (x3 - 1))<(x166004.length:Int) then (if 0<((rdOf ByteArray.empty x166004 (wrap64 (x3 - 1))).size:Int) then (if (bt (rdOf ByteArray.empty x166004 (wrap64 (x3 - 1))) 0)=43 then (some false) else (r05_Right.l0 k (wrap64 (x3+1)) x166000 x166001 x166002 x166003 x166004)) else (none)) else (none)) else (none)) else (r05_Right.l0 k (wrap64 (x3+1)) x166000 x166001 x166002 x166003 x166004)) else (none)) else (r05_Right.l0 k (wrap64 (x3+1)) x166000 x166001 x166002 x166003 x166004))
end
end Go.Proofs.YtamojbfmphainaaDoor.Pr
-- shrunk
-- written by a program of this session's (a turned copy of the kit's printer); Lean checks it
namespace Go.Proofs.YtamojbfmphainaaDoor.Pr
open Go.RowKit Go.Proofs.YtamojbfmphainaaDoorW.PrintWords Go.Proofs.YtamojbfmphainaaDoorW.PrintLast Go.Proofs.YtamojbfmphainaaDoorW.PrintMore
attribute [local go_sem] max2_int min2_int max_two min_two max_three min_three max_four min_four   -- for this text's walks alone

mutual
def r06_can.l0:Nat→Bool→Int→Int→Int→Int→Int→List ByteArray→Option (Bool)
 | 0,_,_,_,_,_,_,_=>none
 | k+1,x3,x4,x171000,x171001,x171002,x171003,x171004=>if x4<(x171004.length:Int) then (r06_can.l1 k x3 x4 0 x171000 x171001 x171002 x171003 x171004) else (if x171000 > 2147483646 then (if x171001 > 0 then (some false) else (if x171002 > 2147483646 then (if x171003 > 0 then (some false) else (if x3=true then (if x171000<2147483648 then (if x171001<2147483648 then (if x171002<2147483648 then (some (decide (x171003<2147483648))) else (some false)) else (some false)) else (some false)) else (some false))) else (if x3=true then (if x171000<2147483648 then (if x171001<2147483648 then (if x171002<2147483648 then (some (decide (x171003<2147483648))) else (some false)) else (some false)) else (some false)) else (some false)))) else (if x171002 > 2147483646 then (if x171003 > 0 then (some false) else (if x3=true then (if x171000<2147483648 then (if x171001<2147483648 then (if x171002<2147483648 then (some (decide (x171003<2147483648))) else (some false)) else (some false)) else (some false)) else (some false))) else (if x3=true then (if x171000<2147483648 then (if x171001<2147483648 then (if x171002<2147483648 then (some (decide (x171003<2147483648))) else (some false)) else (some false)) else (some false)) else (some false))))
def r06_can.l1:Nat→Bool→Int→Int→Int→Int→Int→Int→List ByteArray→Option (Bool)
 | 0,_,_,_,_,_,_,_,_=>none
 | k+1,x3,x4,x5,x171000,x171001,x171002,x171003,x171004=>if 0≤x4 then (if x4<(x171004.length:Int) then (if x5<(wrap64 (((rdOf ByteArray.empty x171004 x4).size:Int) - 1)) then (if 0≤x5 then (if x5<((rdOf ByteArray.empty x171004 x4).size:Int) then (if (bt (rdOf ByteArray.empty x171004 x4) x5)=10 then (some false) else (r06_can.l1 k x3 x4 (wrap64 (x5+1)) x171000 x171001 x171002 x171003 x171004)) else (none)) else (none)) else (r06_can.l0 k x3 (wrap64 (x4+1)) x171000 x171001 x171002 x171003 x171004)) else (none)) else (none)
end
end Go.Proofs.YtamojbfmphainaaDoor.Pr
-- shrunk
-- written by a program of this session's (a turned copy of the kit's printer); Lean checks it
namespace Go.Proofs.YtamojbfmphainaaDoor.Pr
open Go.RowKit Go.Proofs.YtamojbfmphainaaDoorW.PrintWords Go.Proofs.YtamojbfmphainaaDoorW.PrintLast Go.Proofs.YtamojbfmphainaaDoorW.PrintMore
attribute [local go_sem] max2_int min2_int max_two min_two max_three min_three max_four min_four   -- for this text's walks alone

end Go.Proofs.YtamojbfmphainaaDoor.Pr
-- shrunk
-- written by a program of this session's (a turned copy of the kit's printer); Lean checks it
namespace Go.Proofs.YtamojbfmphainaaDoor.Pr
open Go.RowKit Go.Proofs.YtamojbfmphainaaDoorW.PrintWords Go.Proofs.YtamojbfmphainaaDoorW.PrintLast Go.Proofs.YtamojbfmphainaaDoorW.PrintMore
attribute [local go_sem] max2_int min2_int max_two min_two max_three min_three max_four min_four   -- for this text's walks alone

end Go.Proofs.YtamojbfmphainaaDoor.Pr
-- shrunk
-- written by a program of this session's (a turned copy of the kit's printer); Lean checks it
namespace Go.Proofs.YtamojbfmphainaaDoor.Pr
open Go.RowKit Go.Proofs.YtamojbfmphainaaDoorW.PrintWords Go.Proofs.YtamojbfmphainaaDoorW.PrintLast Go.Proofs.YtamojbfmphainaaDoorW.PrintMore
attribute [local go_sem] max2_int min2_int max_two min_two max_three min_three max_four min_four   -- for this text's walks alone

def r06_mark.f :Option (ByteArray):=some (⟨#[92,32,78,111,32,110,101,119,108,105,110,101,32,97,116,32,101,110,100,32,111,102,32,102,105,108,101,10]⟩:ByteArray)
set_option maxHeartbeats 8000000 in
set_option maxRecDepth 100000 in
theorem r06_mark.calls  (r:ByteArray) (w:World) (h:r06_mark.f =some r) :
  Calls Tryd.prog 30 #[] w fun e w'=>e=.returned (.string r)∧Drawn0 w w':=by
 have H:(some (⟨#[92,32,78,111,32,110,101,119,108,105,110,101,32,97,116,32,101,110,100,32,111,102,32,102,105,108,101,10]⟩:ByteArray))=some r:=h
 clear h
 obtain rfl:=Option.some.inj H
 go_enter Tryd.func30,Tryd.ntmps30
 go_wp2
 go_ret
 exact ⟨by first|rfl|(simp;done)|(simp [*];done),by repeat (first|exact Drawn0.refl _|apply Drawn0.step)⟩

end Go.Proofs.YtamojbfmphainaaDoor.Pr
-- shrunk
/-
The document's Print, walked.
-/
namespace Go.Proofs.YtamojbfmphainaaDoor.Pr
open Go.RowKit Go.Proofs.YtamojbfmphainaaDoorW.PrintWords Go.Proofs.YtamojbfmphainaaDoorW.PrintLast Go.Proofs.YtamojbfmphainaaDoorW.PrintMore
end Go.Proofs.YtamojbfmphainaaDoor.Pr
-- shrunk
-- written by a program of this session's (a turned copy of the kit's printer); Lean checks it
namespace Go.Proofs.YtamojbfmphainaaDoor.Pr
open Go.RowKit Go.Proofs.YtamojbfmphainaaDoorW.PrintWords Go.Proofs.YtamojbfmphainaaDoorW.PrintLast Go.Proofs.YtamojbfmphainaaDoorW.PrintMore
attribute [local go_sem] max2_int min2_int max_two min_two max_three min_three max_four min_four   -- for this text's walks alone





end Go.Proofs.YtamojbfmphainaaDoor.Pr
-- shrunk
-- written by a program of this session's (a turned copy of the kit's printer); Lean checks it
namespace Go.Proofs.YtamojbfmphainaaDoor.Pr
open Go.RowKit Go.Proofs.YtamojbfmphainaaDoorW.PrintWords Go.Proofs.YtamojbfmphainaaDoorW.PrintLast Go.Proofs.YtamojbfmphainaaDoorW.PrintMore
attribute [local go_sem] max2_int min2_int max_two min_two max_three min_three max_four min_four   -- for this text's walks alone

end Go.Proofs.YtamojbfmphainaaDoor.Pr
-- shrunk
-- written by a program of this session's (a turned copy of the kit's printer); Lean checks it
namespace Go.Proofs.YtamojbfmphainaaDoor.Pr
open Go.RowKit Go.Proofs.YtamojbfmphainaaDoorW.PrintWords Go.Proofs.YtamojbfmphainaaDoorW.PrintLast Go.Proofs.YtamojbfmphainaaDoorW.PrintMore
attribute [local go_sem] max2_int min2_int max_two min_two max_three min_three max_four min_four   -- for this text's walks alone

end Go.Proofs.YtamojbfmphainaaDoor.Pr
-- shrunk
/-
What the printed functions of package hunk compute of lines with signs, as plain Lean: signed, bare, run, count.
-/
namespace Go.Proofs.YtamojbfmphainaaDoor.Pr
open Go.RowKit Go.Proofs.YtamojbfmphainaaDoorW.PrintWords Go.Proofs.YtamojbfmphainaaDoorW.PrintLast Go.Proofs.YtamojbfmphainaaDoorW.PrintMore
theorem nil_toList:([]:List UInt8)=ByteArray.empty.toList:=by
 rw [ByteArray.toList,ByteArray.toList.loop];simp
def cntL (came:Bool) (an bn:Int):List ByteArray→Int × Int × Bool
 | []=>(an,bn,true)
 | s :: l=>if s.toList=([]:List UInt8) then (0,0,false) else if bt s 0=45∧came=true then (0,0,false) else
   if bt s 0=32 then cntL false (an+1) (bn+1) l else if bt s 0=43 then cntL true an (bn+1) l else if bt s 0=45 then cntL false (an+1) bn l else (0,0,false)
theorem ne_size {s:ByteArray} (h:¬ s.toList=([]:List UInt8)):0<s.size:=by
 rw [nil_toList,toList_iff] at h
 rcases Nat.eq_zero_or_pos s.size with h0|h0
 ·exact absurd (ByteArray.size_eq_zero_iff.1 h0) h
 ·exact h0
theorem count_l0 (l:List ByteArray) (hn:l.length≤1099511627776) :
  ∀ (d i:Nat) (an bn:Int) (came:Bool),l.length - i=d→i≤l.length→0≤an→an≤i→0≤bn→bn≤i→Ev (fun k=>hunk_count.l0 k an bn came l (l.length:Int) (i:Int)) (cntL came an bn (l.drop i)):=by
 intro d
 induction d with
 | zero =>
  intro i an bn came hd hi h1 h2 h3 h4
  refine Ev.step (fun _=>hunk_count.l0.eq_2 ..) ?_
  simp only [if_neg (show ¬ (i:Int)<(l.length:Int) by omega)]
  rw [List.drop_of_length_le (by omega)]
  exact Ev.now _
 | succ d ih =>
  intro i an bn came hd hi h1 h2 h3 h4
  refine Ev.step (fun _=>hunk_count.l0.eq_2 ..) ?_
  have h0:i<l.length:=by omega
  rw [List.drop_eq_getElem_cons h0]
  simp only [if_pos (show (i:Int)<(l.length:Int) by omega),if_pos (show 0≤(i:Int) by omega),rdS_at h0,cntL]
  have wa:wrap64 (an+1)=an+1:=w_in (by omega) (by omega)
  have wb:wrap64 (bn+1)=bn+1:=w_in (by omega) (by omega)
  have hj:∀ cc:Bool,0<l[i].size→Ev (fun k=>hunk_count.j1 k an bn l[i] l (l.length:Int) (i:Int) cc) (if cc=true then (0,0,false) else
    if bt l[i] 0=32 then cntL false (an+1) (bn+1) (l.drop (i+1)) else if bt l[i] 0=43 then cntL true an (bn+1) (l.drop (i+1)) else if bt l[i] 0=45 then cntL false (an+1) bn (l.drop (i+1)) else (0,0,false)):=by
   intro cc hp
   refine Ev.step (fun _=>hunk_count.j1.eq_2 ..) ?_
   by_cases hcc:cc=true
   ·simp only [if_pos hcc];exact Ev.now _
   simp only [if_neg hcc,if_pos (show (0:Int)<(l[i].size:Int) by omega),wa,wb,w_succ h0 (show l.length≤4611686018427387904 by omega)]
   by_cases b32:bt l[i] 0=32
   ·simp only [if_pos b32]
    have h:=ih (i+1) (an+1) (bn+1) (bt l[i] 0 == 43) (by omega) (by omega) (by omega) (by omega) (by omega) (by omega)
    rw [show (bt l[i] 0 == 43)=false by rw [b32];rfl] at h
    simp only [show (bt l[i] 0 == 43)=false by rw [b32];rfl]
    exact h
   simp only [if_neg b32]
   by_cases b43:bt l[i] 0=43
   ·simp only [if_pos b43]
    have h:=ih (i+1) an (bn+1) (bt l[i] 0 == 43) (by omega) (by omega) (by omega) (by omega) (by omega) (by omega)
    rw [show (bt l[i] 0 == 43)=true by rw [b43];rfl] at h
    simp only [show (bt l[i] 0 == 43)=true by rw [b43];rfl]
    exact h
   simp only [if_neg b43]
   by_cases b45:bt l[i] 0=45
   ·simp only [if_pos b45]
    have h:=ih (i+1) (an+1) bn (bt l[i] 0 == 43) (by omega) (by omega) (by omega) (by omega) (by omega) (by omega)
    rw [show (bt l[i] 0 == 43)=false by rw [b45];rfl] at h
    simp only [show (bt l[i] 0 == 43)=false by rw [b45];rfl]
    exact h
   simp only [if_neg b45]
   exact Ev.now _
  by_cases he:l[i].toList=([]:List UInt8)
  ·simp only [if_pos he]
   refine Ev.step (fun _=>hunk_count.j1.eq_2 ..) ?_
   simp only [if_true]
   exact Ev.now _
  have hp:=ne_size he
  simp only [if_neg he,if_pos (show (0:Int)<(l[i].size:Int) by omega)]
  by_cases b45:bt l[i] 0=45
  ·simp only [if_pos b45]
   have h:=hj came hp
   cases came
   ·simpa [b45] using h
   ·simpa [b45] using h
  ·simp only [if_neg b45]
   have h:=hj false hp
   simpa [b45] using h
theorem count_ev (l:List ByteArray) (hn:l.length≤1099511627776):Ev (fun k=>hunk_count.f k l) (cntL false 0 0 l):=by
 unfold hunk_count.f
 have h:=count_l0 l hn _ 0 0 0 false rfl (by omega) (by omega) (by omega) (by omega) (by omega)
 simpa using h
end Go.Proofs.YtamojbfmphainaaDoor.Pr
-- shrunk
/-
Lines of a hunk that are right, and how many they are, in plain Lean.
-/
namespace Go.Proofs.YtamojbfmphainaaDoor.Pr
open Go.RowKit Go.Proofs.YtamojbfmphainaaDoorW.PrintWords Go.Proofs.YtamojbfmphainaaDoorW.PrintLast Go.Proofs.YtamojbfmphainaaDoorW.PrintMore
def manyL (z:Int):List ByteArray→Nat
 | []=>0
 | s :: l=>(if 0<s.size∧(bt s 0=32∨bt s 0=z) then 1 else 0)+manyL z l
def okL (came:Bool):List ByteArray→Bool
 | []=>true
 | s :: l=>decide (0<s.size∧(bt s 0=32∨bt s 0=43∨bt s 0=45)∧¬ (bt s 0=45∧came=true)) && okL (decide (bt s 0=43)) l
theorem cntL_ok:∀ (l:List ByteArray) (came:Bool) (an bn:Int),(cntL came an bn l).2.2=okL came l∧(okL came l=true→cntL came an bn l=(an+manyL 45 l,bn+manyL 43 l,true))
 | [],came,an,bn=>⟨rfl,fun _=>by simp [cntL,manyL]⟩
 | s :: l,came,an,bn=>by
  rw [cntL,okL]
  by_cases h0:s.toList=([]:List UInt8)
  ·have hs:¬ 0<s.size:=by
    rw [nil_toList,toList_iff] at h0
    subst h0
    simp
   rw [if_pos h0,decide_eq_false (fun h=>hs h.1),Bool.false_and]
   exact ⟨rfl,fun h=>absurd h (by simp)⟩
  have hp:=ne_size h0
  rw [if_neg h0]
  by_cases h1:bt s 0=45∧came=true
  ·rw [if_pos h1,decide_eq_false (fun h=>h.2.2 h1),Bool.false_and]
   exact ⟨rfl,fun h=>absurd h (by simp)⟩
  rw [if_neg h1]
  by_cases b32:bt s 0=32
  ·have ih:=cntL_ok l false (an+1) (bn+1)
   rw [if_pos b32,decide_eq_true ⟨hp,Or.inl b32,h1⟩,Bool.true_and,decide_eq_false (by omega)]
   refine ⟨ih.1,fun h=>?_⟩
   rw [ih.2 h,manyL,manyL,if_pos ⟨hp,Or.inl b32⟩,if_pos ⟨hp,Or.inl b32⟩]
   congr 1
   ·push_cast;omega
   ·congr 1;push_cast;omega
  rw [if_neg b32]
  by_cases b43:bt s 0=43
  ·have ih:=cntL_ok l true an (bn+1)
   rw [if_pos b43,decide_eq_true ⟨hp,Or.inr (Or.inl b43),h1⟩,Bool.true_and,decide_eq_true b43]
   refine ⟨ih.1,fun h=>?_⟩
   rw [ih.2 h,manyL,manyL,if_neg (by rintro ⟨_,h|h⟩<;>omega),if_pos ⟨hp,Or.inr b43⟩,Nat.zero_add]
   congr 1
   congr 1;push_cast;omega
  rw [if_neg b43]
  by_cases b45:bt s 0=45
  ·have ih:=cntL_ok l false (an+1) bn
   rw [if_pos b45,decide_eq_true ⟨hp,Or.inr (Or.inr b45),h1⟩,Bool.true_and,decide_eq_false (by omega)]
   refine ⟨ih.1,fun h=>?_⟩
   rw [ih.2 h,manyL,manyL,if_pos ⟨hp,Or.inr b45⟩,if_neg (by rintro ⟨_,h|h⟩<;>omega),Nat.zero_add]
   congr 1
   push_cast;omega
  ·rw [if_neg b45,decide_eq_false (by rintro ⟨_,h|h|h,_⟩<;>omega),Bool.false_and]
   exact ⟨rfl,fun h=>absurd h (by simp)⟩
def rightL (A An B Bn:Int) (l:List ByteArray):Bool:=decide (okL false l=true∧0≤A∧0≤B∧An=manyL 45 l∧Bn=manyL 43 l)
theorem right_same (A An B Bn:Int) (l:List ByteArray):decide ((cntL false 0 0 l).2.2=true∧0≤A∧0≤B∧(cntL false 0 0 l).1=An∧(cntL false 0 0 l).2.1=Bn)=rightL A An B Bn l:=by
 have h:=cntL_ok l false 0 0
 unfold rightL
 rw [decide_eq_decide,h.1]
 constructor
 ·rintro ⟨h1,h2,h3,h4,h5⟩
  rw [h.2 h1] at h4 h5
  exact ⟨h1,h2,h3,by have h4':(0:Int)+(manyL 45 l:Int)=An:=h4;omega,by have h5':(0:Int)+(manyL 43 l:Int)=Bn:=h5;omega⟩
 ·rintro ⟨h1,h2,h3,h4,h5⟩
  rw [h.2 h1]
  exact ⟨h1,h2,h3,by show (0:Int)+(manyL 45 l:Int)=An;omega,by show (0:Int)+(manyL 43 l:Int)=Bn;omega⟩
end Go.Proofs.YtamojbfmphainaaDoor.Pr
-- shrunk
/-
What layer 6 needs of hunks that are right: package hunk's Right, and the document's.
-/
namespace Go.Proofs.YtamojbfmphainaaDoor.Pr
open Go.RowKit Go.Proofs.YtamojbfmphainaaDoorW.PrintWords Go.Proofs.YtamojbfmphainaaDoorW.PrintLast Go.Proofs.YtamojbfmphainaaDoorW.PrintMore
theorem HRight_ev (A An B Bn:Int) (l:List ByteArray) (hn:l.length≤1099511627776) :
  Ev (fun k=>hunk_Right.f k A An B Bn l) (decide ((cntL false 0 0 l).2.2=true∧0≤A∧0≤B∧(cntL false 0 0 l).1=An∧(cntL false 0 0 l).2.1=Bn)):=by
 unfold hunk_Right.f
 refine Ev.bind (count_ev l hn) ?_
 generalize cntL false 0 0 l=c
 by_cases h1:c.2.2=true
 ·simp only [if_pos h1]
  by_cases h2:A ≥ 0
  ·simp only [if_pos h2]
   by_cases h3:B ≥ 0
   ·simp only [if_pos h3]
    by_cases h4:c.1=An
    ·simp only [if_pos h4]
     have e:(c.2.1 == Bn)=decide (c.2.2=true∧0≤A∧0≤B∧c.1=An∧c.2.1=Bn):=by
      rw [Bool.eq_iff_iff,beq_iff_eq,decide_eq_true_iff];exact ⟨fun h=>⟨h1,h2,h3,h4,h⟩,fun h=>h.2.2.2.2⟩
     rw [e];exact Ev.now _
    ·simp only [if_neg h4]
     rw [decide_eq_false (fun h=>h4 h.2.2.2.1)];exact Ev.now _
   ·simp only [if_neg h3]
    rw [decide_eq_false (fun h=>h3 h.2.2.1)];exact Ev.now _
  ·simp only [if_neg h2]
   rw [decide_eq_false (fun h=>h2 h.2.1)];exact Ev.now _
 ·simp only [if_neg h1]
  rw [decide_eq_false (fun h=>h1 h.1)];exact Ev.now _
theorem Many_l0 (l:List ByteArray) (z:Int) (hn:l.length≤1099511627776):∀ (d i:Nat) (n:Int),l.length - i=d→i≤l.length→0≤n→n≤i→Ev (fun k=>r05_Many.l0 k l z n (i:Int)) (n+manyL z (l.drop i)):=by
 intro d
 induction d with
 | zero =>
  intro i n hd hi h1 h2
  refine Ev.step (fun _=>r05_Many.l0.eq_2 ..) ?_
  simp only [if_neg (show ¬ (i:Int)<(l.length:Int) by omega)]
  rw [List.drop_of_length_le (by omega)]
  simp only [manyL,Int.natCast_zero,Int.add_zero]
  exact Ev.now _
 | succ d ih =>
  intro i n hd hi h1 h2
  refine Ev.step (fun _=>r05_Many.l0.eq_2 ..) ?_
  have h0:i<l.length:=by omega
  rw [List.drop_eq_getElem_cons h0]
  simp only [if_pos (show (i:Int)<(l.length:Int) by omega),if_pos (show 0≤(i:Int) by omega),rdS_at h0,w_succ h0 (show l.length≤4611686018427387904 by omega),w_in (show -9223372036854775808≤n+1 by omega) (show n+1≤9223372036854775807 by omega),manyL]
  have hx:=ih (i+1) (n+1) (by omega) (by omega) (by omega) (by omega)
  have hy:=ih (i+1) n (by omega) (by omega) (by omega) (by omega)
  by_cases c1:(l[i].size:Int) > 0
  ·simp only [if_pos c1,if_pos (show (0:Int)<(l[i].size:Int) by omega)]
   by_cases c2:bt l[i] 0=32
   ·simp only [if_pos c2]
    rw [if_pos ⟨by omega,Or.inl c2⟩]
    rw [show n+(((1+manyL z (l.drop (i+1)):Nat)):Int)=n+1+(manyL z (l.drop (i+1)):Int) by push_cast;omega]
    exact hx
   simp only [if_neg c2]
   by_cases c3:bt l[i] 0=z
   ·simp only [if_pos c3]
    rw [if_pos ⟨by omega,Or.inr c3⟩]
    rw [show n+(((1+manyL z (l.drop (i+1)):Nat)):Int)=n+1+(manyL z (l.drop (i+1)):Int) by push_cast;omega]
    exact hx
   ·simp only [if_neg c3]
    rw [if_neg (by rintro ⟨_,h|h⟩;exact c2 h;exact c3 h),Nat.zero_add]
    exact hy
  ·simp only [if_neg c1]
   rw [if_neg (by rintro ⟨h,_⟩;omega),Nat.zero_add]
   exact hy
theorem Many_ev (l:List ByteArray) (z:Int) (hn:l.length≤1099511627776):Ev (fun k=>r05_Many.f k l z) (manyL z l:Int):=by
 unfold r05_Many.f
 have h:=Many_l0 l z hn _ 0 0 rfl (by omega) (by omega) (by omega)
 simpa using h
end Go.Proofs.YtamojbfmphainaaDoor.Pr
-- shrunk
-- written by a program of this session's (a turned copy of the kit's printer); Lean checks it
namespace Go.Proofs.YtamojbfmphainaaDoor.Pr
open Go.RowKit Go.Proofs.YtamojbfmphainaaDoorW.PrintWords Go.Proofs.YtamojbfmphainaaDoorW.PrintLast Go.Proofs.YtamojbfmphainaaDoorW.PrintMore
attribute [local go_sem] max2_int min2_int max_two min_two max_three min_three max_four min_four   -- for this text's walks alone

end Go.Proofs.YtamojbfmphainaaDoor.Pr
-- shrunk
-- written by a program of this session's (a turned copy of the kit's printer); Lean checks it
namespace Go.Proofs.YtamojbfmphainaaDoor.Pr
open Go.RowKit Go.Proofs.YtamojbfmphainaaDoorW.PrintWords Go.Proofs.YtamojbfmphainaaDoorW.PrintLast Go.Proofs.YtamojbfmphainaaDoorW.PrintMore
attribute [local go_sem] max2_int min2_int max_two min_two max_three min_three max_four min_four   -- for this text's walks alone

mutual
def l06_few.l0:Nat→List (S41)→Bool→Int→Int→Option (Bool)
 | 0,_,_,_,_=>none
 | k+1,x0,x3,x4,x5=>if x5<(x0.length:Int) then (l06_few.j1 k x0 x3 x4 x5 x3) else (l06_few.j1 k x0 x3 x4 x5 false)
def l06_few.j1:Nat→List (S41)→Bool→Int→Int→Bool→Option (Bool)
 | 0,_,_,_,_,_=>none
 | k+1,x0,x3,x4,x5,x15=>if x15=true then (l06_few.l1 k x0 x3 x4 x5 0) else (if x3=true then (some (decide (x4≤500))) else (some false))
def l06_few.l1:Nat→List (S41)→Bool→Int→Int→Int→Option (Bool)
 | 0,_,_,_,_,_=>none
 | k+1,x0,x3,x4,x5,x6=>if 0≤x5 then (if x5<(x0.length:Int) then (if x6<(((rd_T41 x0 x5).f4).length:Int) then (if 0≤x6 then (l06_few.l1 k x0 x3 (wrap64 ((wrap64 (x4+(mn ((rdOf ByteArray.empty ((rd_T41 x0 x5).f4) x6).size:Int) 500)))+1)) x5 (wrap64 (x6+1))) else (none)) else (l06_few.l0 k x0 x3 x4 (wrap64 (x5+1)))) else (none)) else (none)
end
end Go.Proofs.YtamojbfmphainaaDoor.Pr
-- shrunk
/-
What Print's parts answer, in plain Lean: which hunks can be told, a side of a head, which lists are looked at.
-/
namespace Go.Proofs.YtamojbfmphainaaDoor.Pr
open Go.RowKit Go.Proofs.YtamojbfmphainaaDoorW.PrintWords Go.Proofs.YtamojbfmphainaaDoorW.PrintLast Go.Proofs.YtamojbfmphainaaDoorW.PrintMore
theorem index_mem (l:List UInt8) (c:UInt8):decide (Lib.indexByte l c ≥ 0)=decide (c ∈ l):=by
 induction l with
 | nil=>simp [Lib.indexByte]
 | cons b l ih =>
  unfold Lib.indexByte
  by_cases h:b=c
  ·subst h;simp
  ·have h1:=indexByte_lt l c
   have hb:(b == c)=false:=by simpa using h
   rw [hb]
   have e:decide (c ∈ b :: l)=decide (c ∈ l):=decide_eq_decide.2 (by simp [Ne.symm h])
   rw [e,← ih]
   by_cases h2:Lib.indexByte l c = -1
   ·simp [h2]
   ·have h4:(Lib.indexByte l c == -1)=false:=by simpa using h2
    rw [h4]
    simp only [Bool.false_eq_true,if_false]
    exact decide_eq_decide.2 (by omega)
def noNl (s:ByteArray):Bool:=decide (¬ (10:UInt8) ∈ s.data.toList.dropLast)
theorem suffix_nl (s:ByteArray) (h:s.size≤4611686018427387904) (h0:s.size≠0):stringslite_HasSuffix.f s (⟨#[10]⟩:ByteArray)=some (closedL s.data.toList):=by
 have h1:=Closed_some s h
 unfold lines_Closed.f at h1
 rw [if_neg (str_ne s h0)] at h1
 unfold strings_HasSuffix.f at h1
 rcases h2:stringslite_HasSuffix.f s (⟨#[10]⟩:ByteArray) with _|b
 ·rw [h2] at h1;cases h1
 ·rw [h2] at h1;exact h1
theorem plain_some (s:ByteArray) (h:s.size≤4611686018427387904):unified_plain.f s=some (noNl s):=by
 have hlen:s.data.toList.length=s.size:=rfl
 have con:∀ t:ByteArray,strings_Contains.f t (⟨#[10]⟩:ByteArray)=some (decide ((10:UInt8) ∈ t.data.toList)):=by
  intro t
  unfold strings_Contains.f strings_Index.f
  rw [if_pos (show (⟨#[10]⟩:ByteArray).size=1 from rfl)]
  exact congrArg some (index_mem t.data.toList 10)
 unfold unified_plain.f strings_TrimSuffix.f stringslite_TrimSuffix.f
 by_cases h0:s.size=0
 ·have e:stringslite_HasSuffix.f s (⟨#[10]⟩:ByteArray)=some false:=by
   unfold stringslite_HasSuffix.f
   rw [if_neg (by show ¬ ((s.size:Int) ≥ ((1:Nat):Int));omega)]
  have hnil:s.data.toList=[]:=List.eq_nil_of_length_eq_zero (by omega)
  rw [e]
  simp only [Option.bind_some,Bool.false_eq_true,if_false,con,noNl,hnil,List.dropLast_nil,List.not_mem_nil,decide_false,Bool.not_false,not_false_eq_true,decide_true]
 ·have hw:wrap64 ((s.size:Int) - ((⟨#[10]⟩:ByteArray).size:Int))=((s.size - 1:Nat):Int):=by
   show wrap64 ((s.size:Int) - ((1:Nat):Int))=_
   unfold wrap64;omega
  rw [suffix_nl s h h0]
  simp only [Option.bind_some,hw]
  by_cases hc:closedL s.data.toList=true
  ·simp only [hc,if_true,if_pos (show (0:Int)≤((s.size - 1:Nat):Int) by omega),if_pos (show ((s.size - 1:Nat):Int)≤(s.size:Int) by omega),Option.bind_some,con,Int.toNat_natCast]
   have e:(s.extract 0 (s.size - 1)).data.toList=s.data.toList.dropLast:=by
    simp only [ByteArray.data_extract,Array.toList_extract,List.extract_eq_take_drop,List.drop_zero]
    rw [List.dropLast_eq_take,hlen,Nat.sub_zero]
   rw [e,noNl,decide_not]
  ·simp only [Bool.eq_false_iff.2 hc,Bool.false_eq_true,if_false,Option.bind_some,con]
   have hl:=last_get s (by omega)
   have e:s.data.toList=s.data.toList.dropLast++[s.data.toList[s.size - 1]'(by show s.size - 1<s.size;omega)]:=by
    have h5:=List.dropLast_concat_getLast (l:=s.data.toList) (by intro e;rw [e] at hlen;simp at hlen;omega)
    rw [List.getLast?_eq_some_getLast (by intro e;rw [e] at hlen;simp at hlen;omega)] at hl
    rw [Option.some.inj hl] at h5
    exact h5.symm
   have hne:s.data.toList[s.size - 1]'(by show s.size - 1<s.size;omega)≠10:=by
    intro e2
    apply hc
    unfold closedL
    rw [hl,e2]
    simp
   rw [noNl,← decide_not]
   congr 1
   apply decide_eq_decide.2
   constructor
   ·intro h1 h2;exact h1 (by rw [e];exact List.mem_append_left _ h2)
   ·intro h1 h2
    rw [e] at h2
    rcases List.mem_append.1 h2 with h2|h2
    ·exact h1 h2
    ·exact hne (List.mem_singleton.1 h2).symm
def bndH (x:S41):Bool:=decide (firstI x.f0 x.f1<2147483648∧x.f1<2147483648∧firstI x.f2 x.f3<2147483648∧x.f3<2147483648)
def canH (x:S41):Bool:=x.f4.all noNl && (rightL x.f0 x.f1 x.f2 x.f3 x.f4 && bndH x)
structure NumH (x:S41):Prop where
 a:-1099511627776≤x.f0∧x.f0≤1099511627776
 b:-1099511627776≤x.f1∧x.f1≤1099511627776
 c:-1099511627776≤x.f2∧x.f2≤1099511627776
 d:-1099511627776≤x.f3∧x.f3≤1099511627776
theorem first_some {a b:Int} (h0:-1099511627776≤a) (h1:a≤1099511627776):unified_first.f a b=some (firstI a b):=by
 unfold unified_first.f firstI
 split
 ·rw [w_in (by omega) (by omega)]
 ·rfl
theorem mx_lt (a b c:Int):mx a b<c ↔ a<c∧b<c:=by unfold mx;split<;>omega
theorem ucan_l0 (x:S41) (hx:NumH x) (hn:x.f4.length≤1099511627776) (hs:∀ s ∈ x.f4,s.size≤4611686018427387904):∀ d i,x.f4.length - i=d→i≤x.f4.length →
  Ev (fun k=>unified_can.l0 k x.f4 (x.f4.length:Int) (i:Int) x.f0 x.f1 x.f2 x.f3 x.f4) ((x.f4.drop i).all noNl && (rightL x.f0 x.f1 x.f2 x.f3 x.f4 && bndH x)):=by
 intro d
 induction d with
 | zero =>
  intro i hd hi
  refine Ev.step (fun _=>unified_can.l0.eq_2 ..) ?_
  simp only [if_neg (show ¬ (i:Int)<(x.f4.length:Int) by omega)]
  rw [List.drop_of_length_le (by omega),List.all_nil,Bool.true_and]
  have h:=HRight_ev x.f0 x.f1 x.f2 x.f3 x.f4 hn
  rw [right_same] at h
  refine Ev.bind h ?_
  by_cases hr:rightL x.f0 x.f1 x.f2 x.f3 x.f4=true
  ·simp only [hr,if_true,first_some hx.a.1 hx.a.2,first_some hx.c.1 hx.c.2,Option.bind_some,Bool.true_and]
   have e:decide ((mx (mx (mx (firstI x.f0 x.f1) x.f1) (firstI x.f2 x.f3)) x.f3)<2147483648)=bndH x:=by
    unfold bndH
    apply decide_eq_decide.2
    rw [mx_lt,mx_lt,mx_lt]
    constructor
    ·intro h;exact ⟨h.1.1.1,h.1.1.2,h.1.2,h.2⟩
    ·intro h;exact ⟨⟨⟨h.1,h.2.1⟩,h.2.2.1⟩,h.2.2.2⟩
   rw [e]
   exact Ev.now _
  ·simp only [Bool.eq_false_iff.2 hr,Bool.false_eq_true,if_false,Bool.false_and]
   exact Ev.now _
 | succ d ih =>
  intro i hd hi
  have h0:i<x.f4.length:=by omega
  refine Ev.step (fun _=>unified_can.l0.eq_2 ..) ?_
  simp only [if_pos (show (i:Int)<(x.f4.length:Int) by omega),if_pos (show (0:Int)≤(i:Int) by omega),rdS_at h0,plain_some _ (hs _ (List.getElem_mem h0)),Option.bind_some]
  rw [List.drop_eq_getElem_cons h0,List.all_cons]
  by_cases hp:noNl x.f4[i]=true
  ·simp only [hp,if_true,Bool.true_and,w_succ h0 (by omega)]
   exact ih (i+1) (by omega) (by omega)
  ·simp only [Bool.eq_false_iff.2 hp,Bool.false_eq_true,if_false,Bool.false_and]
   exact Ev.now _
theorem ucan_ev (x:S41) (hx:NumH x) (hn:x.f4.length≤1099511627776) (hs:∀ s ∈ x.f4,s.size≤4611686018427387904):Ev (fun k=>unified_can.f k x.f0 x.f1 x.f2 x.f3 x.f4) (canH x):=by
 have h:=ucan_l0 x hx hn hs _ 0 rfl (Nat.zero_le _)
 rw [List.drop_zero] at h
 exact h
end Go.Proofs.YtamojbfmphainaaDoor.Pr
-- shrunk
/-
What the document's Print's parts answer, in plain Lean; which lists are looked at.
-/
namespace Go.Proofs.YtamojbfmphainaaDoor.Pr
open Go.RowKit Go.Proofs.YtamojbfmphainaaDoorW.PrintWords Go.Proofs.YtamojbfmphainaaDoorW.PrintLast Go.Proofs.YtamojbfmphainaaDoorW.PrintMore
end Go.Proofs.YtamojbfmphainaaDoor.Pr
-- shrunk
/-
The chapter's example of layer 6, in plain Lean.
-/
namespace Go.Proofs.YtamojbfmphainaaDoor.Pr
open Go.RowKit Go.Proofs.YtamojbfmphainaaDoorW.PrintWords Go.Proofs.YtamojbfmphainaaDoorW.PrintLast Go.Proofs.YtamojbfmphainaaDoorW.PrintMore
def exU:S41:=⟨0,1,0,1,[(⟨#[45,97,10]⟩:ByteArray),(⟨#[43,98]⟩:ByteArray)]⟩
def exUT:ByteArray:=⟨#[64,64,32,45,49,44,49,32,43,49,44,49,32,64,64,10,45,97,10,43,98,10,92,32,78,111,32,110,101,119,108,105,110,101,32,97,116,32,101,110,100,32,111,102,32,102,105,108,101,10]⟩
theorem itoaB_one:itoaB 1=(⟨#[49]⟩:ByteArray):=by
 unfold itoaB
 rw [show (1:Int)=((1:Nat):Int) from rfl,Lib.itoa_nonneg,Lib.decDigits_one (by decide)]
 rfl
theorem can_ex:canH exU=true:=by decide +kernel
theorem from_ex:fromB 0 1=(⟨#[49,44,49]⟩:ByteArray):=by
 rw [fromB,show firstI 0 1=1 from rfl,itoaB_one];rfl
theorem head_ex:headOf exU=(⟨#[64,64,32,45,49,44,49,32,43,49,44,49,32,64,64,10]⟩:ByteArray):=by
 unfold headOf
 show _++fromB 0 1++_++fromB 0 1++_++_=_
 rw [from_ex]
 decide +kernel
theorem print_ex:printL canH [exU] ⟨#[]⟩=exUT:=by
 rw [printL,if_pos can_ex,head_ex]
 decide +kernel
theorem parse_x:parseU (⟨#[120]⟩:ByteArray)=([],1,3):=by
 rw [parseU,linesB_lns]
 kernel_rfl
theorem parse_ex:parseU exUT=([exU],0,0):=by
 rw [parseU,linesB_lns]
 kernel_rfl
end Go.Proofs.YtamojbfmphainaaDoor.Pr
-- shrunk
/-
Which lists of hunks layer 6 looks at, in plain Lean.
-/
namespace Go.Proofs.YtamojbfmphainaaDoor.Pr
open Go.RowKit Go.Proofs.YtamojbfmphainaaDoorW.PrintWords Go.Proofs.YtamojbfmphainaaDoorW.PrintLast Go.Proofs.YtamojbfmphainaaDoorW.PrintMore
theorem rdU_at {xs:List S41} {i:Nat} (h:i<xs.length):rd_T41 xs (i:Int)=xs[i]:=by
 unfold rd_T41;simp [List.getD,List.getElem?_eq_getElem h]
def FewH (h:S41):Prop:=h.f4.length≤30∧h.f0≤1048576∧h.f2≤1048576∧h.f1≤1048576∧h.f3≤1048576 ∧ -1048576≤h.f0 ∧ -1048576≤h.f2 ∧ -1048576≤h.f1 ∧ -1048576≤h.f3
instance (h:S41):Decidable (FewH h):=by unfold FewH;exact inferInstance
end Go.Proofs.YtamojbfmphainaaDoor.Pr
-- shrunk
-- written by a program of this session's (a turned copy of the kit's printer); Lean checks it
namespace Go.Proofs.YtamojbfmphainaaDoor.Pr
open Go.RowKit Go.Proofs.YtamojbfmphainaaDoorW.PrintWords Go.Proofs.YtamojbfmphainaaDoorW.PrintLast Go.Proofs.YtamojbfmphainaaDoorW.PrintMore
attribute [local go_sem] max2_int min2_int max_two min_two max_three min_three max_four min_four   -- for this text's walks alone

def r05_One.f (k:Nat) (a0_0:Int) (a0_1:Int) (a0_2:Int) (a0_3:Int) (l0_4:List ByteArray) (a1_0:Int) (a1_1:Int) (a1_2:Int) (a1_3:Int) (l1_4:List ByteArray):Option (Bool):=if a0_0=a1_0 then (if a0_1=a1_1 then (if a0_2=a1_2 then (if a0_3=a1_3 then ((r01_Texts.f k l0_4 l1_4).bind fun t145=>(some t145)) else (some false)) else (some false)) else (some false)) else (some false)
set_option maxHeartbeats 8000000 in
set_option maxRecDepth 100000 in
theorem r05_One.calls (k:Nat) (a0_0:Int) (a0_1:Int) (a0_2:Int) (a0_3:Int) (A0_4:Option Addr) (c0_4:Nat) (l0_4:List ByteArray) (a1_0:Int) (a1_1:Int) (a1_2:Int) (a1_3:Int) (A1_4:Option Addr) (c1_4:Nat) (l1_4:List ByteArray) (r:Bool) (w:World) (hr0_4:Kd.C Kd.string w A0_4 l0_4.length l0_4) (hc0_4:l0_4.length≤c0_4) (hr1_4:Kd.C Kd.string w A1_4 l1_4.length l1_4) (hc1_4:l1_4.length≤c1_4) (h:r05_One.f k a0_0 a0_1 a0_2 a0_3 l0_4 a1_0 a1_1 a1_2 a1_3 l1_4=some r) :
  Calls Tryd.prog 38 #[.agg #[.int .i64 a0_0,.int .i64 a0_1,.int .i64 a0_2,.int .i64 a0_3,.slice A0_4 l0_4.length c0_4],.agg #[.int .i64 a1_0,.int .i64 a1_1,.int .i64 a1_2,.int .i64 a1_3,.slice A1_4 l1_4.length c1_4]] w fun e w'=>e=.returned (.bool r)∧Below w.heap.size w w':=by
 have hu41:=Tryd.underlying41
 have HR0_4:=Aside0.mk hr0_4
 have HC0_4:=Aside0.mk hc0_4
 clear hr0_4 hc0_4
 have HR1_4:=Aside0.mk hr1_4
 have HC1_4:=Aside0.mk hc1_4
 clear hr1_4 hc1_4
 have HB:=Aside0.mk (Below.refl w.heap.size w)
 have H:(if a0_0=a1_0 then (if a0_1=a1_1 then (if a0_2=a1_2 then (if a0_3=a1_3 then ((r01_Texts.f k l0_4 l1_4).bind fun t145=>(some t145)) else (some false)) else (some false)) else (some false)) else (some false))=some r:=h
 clear h
 by_cases c3:a0_0=a1_0
 ·rw [if_pos c3] at H
  have c3b0:(a0_0 == a1_0)=true:=beq_iff_eq.mpr c3
  have c3b1:(a0_0 != a1_0)=false:=bne_eq_false_iff_eq.mpr c3
  clear c3
  by_cases c4:a0_1=a1_1
  ·rw [if_pos c4] at H
   have c4b0:(a0_1 == a1_1)=true:=beq_iff_eq.mpr c4
   have c4b1:(a0_1 != a1_1)=false:=bne_eq_false_iff_eq.mpr c4
   clear c4
   by_cases c5:a0_2=a1_2
   ·rw [if_pos c5] at H
    have c5b0:(a0_2 == a1_2)=true:=beq_iff_eq.mpr c5
    have c5b1:(a0_2 != a1_2)=false:=bne_eq_false_iff_eq.mpr c5
    clear c5
    by_cases c6:a0_3=a1_3
    ·rw [if_pos c6] at H
     have c6b0:(a0_3 == a1_3)=true:=beq_iff_eq.mpr c6
     have c6b1:(a0_3 != a1_3)=false:=bne_eq_false_iff_eq.mpr c6
     clear c6
     replace H:=Option.bind_eq_some_iff.mp H
     obtain ⟨t145,A70,H⟩:=H
     replace H:(some t145)=some r:=H
     have A7:=Aside0.mk A70
     clear A70
     obtain rfl:=Option.some.inj H
     go_enter Tryd.func38,Tryd.ntmps38
     go_wp2_with (first|((with_reducible refine gate_dst (N:=2) rfl ?_);refine box_event ?hg (N:=2) ?hd (cs:=#[.int .i64 a0_0,.int .i64 a0_1,.int .i64 a0_2,.int .i64 a0_3,.slice A0_4 l0_4.length c0_4]) (t:=41) ?hr ?_;(case hd=>rfl);(case hg=>rfl);(case hr=>first|(go_simp;done)|(go_simp;rfl));intro gb143 hg w8 hbox hb;have n0_:=Aside0.mk (below_step (by repeat (first|(with_reducible first|exact HB.out|apply below_alloc|apply pw_below_drewN|apply below_drew1)|exact HB.out)) hb);have n1_:=Aside0.mk (hbox);have n2_:=Aside0.mk ((by rw [hg];exact (below_size (by repeat (first|(with_reducible first|exact HB.out|apply below_alloc|apply pw_below_drewN|apply below_drew1)|exact HB.out))):w.heap.size≤gb143));have n3_:=Aside0.mk ((by rw [hg];exact (below_size (by repeat (first|(with_reducible first|exact HB.out|apply below_alloc|apply pw_below_drewN|apply below_drew1)|exact HB.out))):w.heap.size≤gb143));clear HB;have HB:=n0_;have BK143:=n1_;have GW143:=n2_;have GE143:=n3_;clear n0_ n1_ n2_ n3_;clear hb hbox hg)|((with_reducible refine gate_dst (N:=3) rfl ?_);refine box_event ?hg (N:=3) ?hd (cs:=#[.int .i64 a1_0,.int .i64 a1_1,.int .i64 a1_2,.int .i64 a1_3,.slice A1_4 l1_4.length c1_4]) (t:=41) ?hr ?_;(case hd=>rfl);(case hg=>rfl);(case hr=>first|(go_simp;done)|(go_simp;rfl));intro gb144 hg w9 hbox hb;have n0_:=Aside0.mk (blk_below (g:=gb143) (o:=.cells #[.int .i64 a0_0,.int .i64 a0_1,.int .i64 a0_2,.int .i64 a0_3,.slice A0_4 l0_4.length c0_4] 41 (0,0)) (by (with_reducible repeat (first|refine blk_drewN ?_ _|refine blk_drew ?_|refine blk_alloc ?_ _));exact BK143.out) hb);have n1_:=Aside0.mk (below_step (by repeat (first|(with_reducible first|exact HB.out|apply below_alloc|apply pw_below_drewN|apply below_drew1|refine below_set ?_ GE143.out)|exact HB.out)) hb);have n2_:=Aside0.mk (hbox);have n3_:=Aside0.mk ((by rw [hg];exact (below_size (by repeat (first|(with_reducible first|exact HB.out|apply below_alloc|apply pw_below_drewN|apply below_drew1|refine below_set ?_ GE143.out)|exact HB.out))):w.heap.size≤gb144));have n4_:=Aside0.mk ((by rw [hg];exact (below_size (by repeat (first|(with_reducible first|exact HB.out|apply below_alloc|apply pw_below_drewN|apply below_drew1|refine below_set ?_ GE143.out)|exact HB.out))):w.heap.size≤gb144));have n5_:=Aside0.mk ((by rw [hg];exact Nat.ne_of_lt (blk_lt (g:=gb143) (o:=.cells #[.int .i64 a0_0,.int .i64 a0_1,.int .i64 a0_2,.int .i64 a0_3,.slice A0_4 l0_4.length c0_4] 41 (0,0)) (by (with_reducible repeat (first|refine blk_drewN ?_ _|refine blk_drew ?_|refine blk_alloc ?_ _));exact BK143.out)):gb143≠gb144));have n6_:=Aside0.mk ((by rw [hg];exact Nat.ne_of_gt (blk_lt (g:=gb143) (o:=.cells #[.int .i64 a0_0,.int .i64 a0_1,.int .i64 a0_2,.int .i64 a0_3,.slice A0_4 l0_4.length c0_4] 41 (0,0)) (by (with_reducible repeat (first|refine blk_drewN ?_ _|refine blk_drew ?_|refine blk_alloc ?_ _));exact BK143.out)):gb144≠gb143));clear BK143;clear HB;have BK143:=n0_;have HB:=n1_;have BK144:=n2_;have GW144:=n3_;have GE144:=n4_;have NB143_144:=n5_;have NB144_143:=n6_;clear n0_ n1_ n2_ n3_ n4_ n5_ n6_;clear hb hbox hg;have hnb10:=NB143_144.out;have hnc10:=NB144_143.out;have hcz11_0:w9.cell? ⟨gb143,0,none⟩=some (.int .i64 a0_0):=(blk_cell BK143.out 0).trans rfl;have hcz11_1:w9.cell? ⟨gb143,1,none⟩=some (.int .i64 a0_1):=(blk_cell BK143.out 1).trans rfl;have hcz11_2:w9.cell? ⟨gb143,2,none⟩=some (.int .i64 a0_2):=(blk_cell BK143.out 2).trans rfl;have hcz11_3:w9.cell? ⟨gb143,3,none⟩=some (.int .i64 a0_3):=(blk_cell BK143.out 3).trans rfl;have hcz11_4:w9.cell? ⟨gb143,4,none⟩=some (.slice A0_4 l0_4.length c0_4):=(blk_cell BK143.out 4).trans rfl;have hfz11_0:=blk_frozen BK143.out 0;have hfz11_1:=blk_frozen BK143.out 1;have hfz11_2:=blk_frozen BK143.out 2;have hfz11_3:=blk_frozen BK143.out 3;have hfz11_4:=blk_frozen BK143.out 4;have hcz12_0:w9.cell? ⟨gb144,0,none⟩=some (.int .i64 a1_0):=(blk_cell BK144.out 0).trans rfl;have hcz12_1:w9.cell? ⟨gb144,1,none⟩=some (.int .i64 a1_1):=(blk_cell BK144.out 1).trans rfl;have hcz12_2:w9.cell? ⟨gb144,2,none⟩=some (.int .i64 a1_2):=(blk_cell BK144.out 2).trans rfl;have hcz12_3:w9.cell? ⟨gb144,3,none⟩=some (.int .i64 a1_3):=(blk_cell BK144.out 3).trans rfl;have hcz12_4:w9.cell? ⟨gb144,4,none⟩=some (.slice A1_4 l1_4.length c1_4):=(blk_cell BK144.out 4).trans rfl;have hfz12_0:=blk_frozen BK144.out 0;have hfz12_1:=blk_frozen BK144.out 1;have hfz12_2:=blk_frozen BK144.out 2;have hfz12_3:=blk_frozen BK144.out 3;have hfz12_4:=blk_frozen BK144.out 4)|(go_at_call 50;(with_reducible refine (r01_Texts.calls k _ _ l0_4 _ _ l1_4 t145 _ ?side1 ?side2 ?side3 ?side4 A7.out).mono ?_);(case side1=>repeat (first|exact (Kd.C_below HR0_4.out HB.out)|(with_reducible refine Kd.C_alloc ?_ _)|(with_reducible refine Kd.C_drewN ?_ _)|(with_reducible refine Kd.C_drew ?_)));(case side2=>exact HC0_4.out);(case side3=>repeat (first|exact (Kd.C_below HR1_4.out HB.out)|(with_reducible refine Kd.C_alloc ?_ _)|(with_reducible refine Kd.C_drewN ?_ _)|(with_reducible refine Kd.C_drew ?_)));(case side4=>exact HC1_4.out);rintro e w' ⟨rfl,⟨nd,rfl⟩⟩))
     go_ret
     exact ⟨by first|rfl|(simp [errW_none,errW_some]<;>rfl)|(simp [*,errW_none,errW_some]<;>rfl),by repeat (first|(with_reducible first|exact HB.out|apply below_alloc|apply pw_below_drewN|apply below_drew1|refine below_set ?_ GE143.out|refine below_set ?_ GE144.out)|exact HB.out)⟩
    ·rw [if_neg c6] at H
     have c6b0:(a0_3 == a1_3)=false:=beq_eq_false_iff_ne.mpr c6
     have c6b1:(a0_3 != a1_3)=true:=bne_iff_ne.mpr c6
     obtain rfl:=Option.some.inj H
     go_enter Tryd.func38,Tryd.ntmps38
     go_wp2_with (first|((with_reducible refine gate_dst (N:=2) rfl ?_);refine box_event ?hg (N:=2) ?hd (cs:=#[.int .i64 a0_0,.int .i64 a0_1,.int .i64 a0_2,.int .i64 a0_3,.slice A0_4 l0_4.length c0_4]) (t:=41) ?hr ?_;(case hd=>rfl);(case hg=>rfl);(case hr=>first|(go_simp;done)|(go_simp;rfl));intro gb143 hg w13 hbox hb;have n0_:=Aside0.mk (below_step (by repeat (first|(with_reducible first|exact HB.out|apply below_alloc|apply pw_below_drewN|apply below_drew1)|exact HB.out)) hb);have n1_:=Aside0.mk (hbox);have n2_:=Aside0.mk ((by rw [hg];exact (below_size (by repeat (first|(with_reducible first|exact HB.out|apply below_alloc|apply pw_below_drewN|apply below_drew1)|exact HB.out))):w.heap.size≤gb143));have n3_:=Aside0.mk ((by rw [hg];exact (below_size (by repeat (first|(with_reducible first|exact HB.out|apply below_alloc|apply pw_below_drewN|apply below_drew1)|exact HB.out))):w.heap.size≤gb143));clear HB;have HB:=n0_;have BK143:=n1_;have GW143:=n2_;have GE143:=n3_;clear n0_ n1_ n2_ n3_;clear hb hbox hg)|((with_reducible refine gate_dst (N:=3) rfl ?_);refine box_event ?hg (N:=3) ?hd (cs:=#[.int .i64 a1_0,.int .i64 a1_1,.int .i64 a1_2,.int .i64 a1_3,.slice A1_4 l1_4.length c1_4]) (t:=41) ?hr ?_;(case hd=>rfl);(case hg=>rfl);(case hr=>first|(go_simp;done)|(go_simp;rfl));intro gb144 hg w14 hbox hb;have n0_:=Aside0.mk (blk_below (g:=gb143) (o:=.cells #[.int .i64 a0_0,.int .i64 a0_1,.int .i64 a0_2,.int .i64 a0_3,.slice A0_4 l0_4.length c0_4] 41 (0,0)) (by (with_reducible repeat (first|refine blk_drewN ?_ _|refine blk_drew ?_|refine blk_alloc ?_ _));exact BK143.out) hb);have n1_:=Aside0.mk (below_step (by repeat (first|(with_reducible first|exact HB.out|apply below_alloc|apply pw_below_drewN|apply below_drew1|refine below_set ?_ GE143.out)|exact HB.out)) hb);have n2_:=Aside0.mk (hbox);have n3_:=Aside0.mk ((by rw [hg];exact (below_size (by repeat (first|(with_reducible first|exact HB.out|apply below_alloc|apply pw_below_drewN|apply below_drew1|refine below_set ?_ GE143.out)|exact HB.out))):w.heap.size≤gb144));have n4_:=Aside0.mk ((by rw [hg];exact (below_size (by repeat (first|(with_reducible first|exact HB.out|apply below_alloc|apply pw_below_drewN|apply below_drew1|refine below_set ?_ GE143.out)|exact HB.out))):w.heap.size≤gb144));have n5_:=Aside0.mk ((by rw [hg];exact Nat.ne_of_lt (blk_lt (g:=gb143) (o:=.cells #[.int .i64 a0_0,.int .i64 a0_1,.int .i64 a0_2,.int .i64 a0_3,.slice A0_4 l0_4.length c0_4] 41 (0,0)) (by (with_reducible repeat (first|refine blk_drewN ?_ _|refine blk_drew ?_|refine blk_alloc ?_ _));exact BK143.out)):gb143≠gb144));have n6_:=Aside0.mk ((by rw [hg];exact Nat.ne_of_gt (blk_lt (g:=gb143) (o:=.cells #[.int .i64 a0_0,.int .i64 a0_1,.int .i64 a0_2,.int .i64 a0_3,.slice A0_4 l0_4.length c0_4] 41 (0,0)) (by (with_reducible repeat (first|refine blk_drewN ?_ _|refine blk_drew ?_|refine blk_alloc ?_ _));exact BK143.out)):gb144≠gb143));clear BK143;clear HB;have BK143:=n0_;have HB:=n1_;have BK144:=n2_;have GW144:=n3_;have GE144:=n4_;have NB143_144:=n5_;have NB144_143:=n6_;clear n0_ n1_ n2_ n3_ n4_ n5_ n6_;clear hb hbox hg;have hnb15:=NB143_144.out;have hnc15:=NB144_143.out;have hcz16_0:w14.cell? ⟨gb143,0,none⟩=some (.int .i64 a0_0):=(blk_cell BK143.out 0).trans rfl;have hcz16_1:w14.cell? ⟨gb143,1,none⟩=some (.int .i64 a0_1):=(blk_cell BK143.out 1).trans rfl;have hcz16_2:w14.cell? ⟨gb143,2,none⟩=some (.int .i64 a0_2):=(blk_cell BK143.out 2).trans rfl;have hcz16_3:w14.cell? ⟨gb143,3,none⟩=some (.int .i64 a0_3):=(blk_cell BK143.out 3).trans rfl;have hcz16_4:w14.cell? ⟨gb143,4,none⟩=some (.slice A0_4 l0_4.length c0_4):=(blk_cell BK143.out 4).trans rfl;have hfz16_0:=blk_frozen BK143.out 0;have hfz16_1:=blk_frozen BK143.out 1;have hfz16_2:=blk_frozen BK143.out 2;have hfz16_3:=blk_frozen BK143.out 3;have hfz16_4:=blk_frozen BK143.out 4;have hcz17_0:w14.cell? ⟨gb144,0,none⟩=some (.int .i64 a1_0):=(blk_cell BK144.out 0).trans rfl;have hcz17_1:w14.cell? ⟨gb144,1,none⟩=some (.int .i64 a1_1):=(blk_cell BK144.out 1).trans rfl;have hcz17_2:w14.cell? ⟨gb144,2,none⟩=some (.int .i64 a1_2):=(blk_cell BK144.out 2).trans rfl;have hcz17_3:w14.cell? ⟨gb144,3,none⟩=some (.int .i64 a1_3):=(blk_cell BK144.out 3).trans rfl;have hcz17_4:w14.cell? ⟨gb144,4,none⟩=some (.slice A1_4 l1_4.length c1_4):=(blk_cell BK144.out 4).trans rfl;have hfz17_0:=blk_frozen BK144.out 0;have hfz17_1:=blk_frozen BK144.out 1;have hfz17_2:=blk_frozen BK144.out 2;have hfz17_3:=blk_frozen BK144.out 3;have hfz17_4:=blk_frozen BK144.out 4))
     go_ret
     exact ⟨by first|rfl|(simp [errW_none,errW_some]<;>rfl)|(simp [*,errW_none,errW_some]<;>rfl),by repeat (first|(with_reducible first|exact HB.out|apply below_alloc|apply pw_below_drewN|apply below_drew1|refine below_set ?_ GE143.out|refine below_set ?_ GE144.out)|exact HB.out)⟩
   ·rw [if_neg c5] at H
    have c5b0:(a0_2 == a1_2)=false:=beq_eq_false_iff_ne.mpr c5
    have c5b1:(a0_2 != a1_2)=true:=bne_iff_ne.mpr c5
    obtain rfl:=Option.some.inj H
    go_enter Tryd.func38,Tryd.ntmps38
    go_wp2_with (first|((with_reducible refine gate_dst (N:=2) rfl ?_);refine box_event ?hg (N:=2) ?hd (cs:=#[.int .i64 a0_0,.int .i64 a0_1,.int .i64 a0_2,.int .i64 a0_3,.slice A0_4 l0_4.length c0_4]) (t:=41) ?hr ?_;(case hd=>rfl);(case hg=>rfl);(case hr=>first|(go_simp;done)|(go_simp;rfl));intro gb143 hg w18 hbox hb;have n0_:=Aside0.mk (below_step (by repeat (first|(with_reducible first|exact HB.out|apply below_alloc|apply pw_below_drewN|apply below_drew1)|exact HB.out)) hb);have n1_:=Aside0.mk (hbox);have n2_:=Aside0.mk ((by rw [hg];exact (below_size (by repeat (first|(with_reducible first|exact HB.out|apply below_alloc|apply pw_below_drewN|apply below_drew1)|exact HB.out))):w.heap.size≤gb143));have n3_:=Aside0.mk ((by rw [hg];exact (below_size (by repeat (first|(with_reducible first|exact HB.out|apply below_alloc|apply pw_below_drewN|apply below_drew1)|exact HB.out))):w.heap.size≤gb143));clear HB;have HB:=n0_;have BK143:=n1_;have GW143:=n2_;have GE143:=n3_;clear n0_ n1_ n2_ n3_;clear hb hbox hg)|((with_reducible refine gate_dst (N:=3) rfl ?_);refine box_event ?hg (N:=3) ?hd (cs:=#[.int .i64 a1_0,.int .i64 a1_1,.int .i64 a1_2,.int .i64 a1_3,.slice A1_4 l1_4.length c1_4]) (t:=41) ?hr ?_;(case hd=>rfl);(case hg=>rfl);(case hr=>first|(go_simp;done)|(go_simp;rfl));intro gb144 hg w19 hbox hb;have n0_:=Aside0.mk (blk_below (g:=gb143) (o:=.cells #[.int .i64 a0_0,.int .i64 a0_1,.int .i64 a0_2,.int .i64 a0_3,.slice A0_4 l0_4.length c0_4] 41 (0,0)) (by (with_reducible repeat (first|refine blk_drewN ?_ _|refine blk_drew ?_|refine blk_alloc ?_ _));exact BK143.out) hb);have n1_:=Aside0.mk (below_step (by repeat (first|(with_reducible first|exact HB.out|apply below_alloc|apply pw_below_drewN|apply below_drew1|refine below_set ?_ GE143.out)|exact HB.out)) hb);have n2_:=Aside0.mk (hbox);have n3_:=Aside0.mk ((by rw [hg];exact (below_size (by repeat (first|(with_reducible first|exact HB.out|apply below_alloc|apply pw_below_drewN|apply below_drew1|refine below_set ?_ GE143.out)|exact HB.out))):w.heap.size≤gb144));have n4_:=Aside0.mk ((by rw [hg];exact (below_size (by repeat (first|(with_reducible first|exact HB.out|apply below_alloc|apply pw_below_drewN|apply below_drew1|refine below_set ?_ GE143.out)|exact HB.out))):w.heap.size≤gb144));have n5_:=Aside0.mk ((by rw [hg];exact Nat.ne_of_lt (blk_lt (g:=gb143) (o:=.cells #[.int .i64 a0_0,.int .i64 a0_1,.int .i64 a0_2,.int .i64 a0_3,.slice A0_4 l0_4.length c0_4] 41 (0,0)) (by (with_reducible repeat (first|refine blk_drewN ?_ _|refine blk_drew ?_|refine blk_alloc ?_ _));exact BK143.out)):gb143≠gb144));have n6_:=Aside0.mk ((by rw [hg];exact Nat.ne_of_gt (blk_lt (g:=gb143) (o:=.cells #[.int .i64 a0_0,.int .i64 a0_1,.int .i64 a0_2,.int .i64 a0_3,.slice A0_4 l0_4.length c0_4] 41 (0,0)) (by (with_reducible repeat (first|refine blk_drewN ?_ _|refine blk_drew ?_|refine blk_alloc ?_ _));exact BK143.out)):gb144≠gb143));clear BK143;clear HB;have BK143:=n0_;have HB:=n1_;have BK144:=n2_;have GW144:=n3_;have GE144:=n4_;have NB143_144:=n5_;have NB144_143:=n6_;clear n0_ n1_ n2_ n3_ n4_ n5_ n6_;clear hb hbox hg;have hnb20:=NB143_144.out;have hnc20:=NB144_143.out;have hcz21_0:w19.cell? ⟨gb143,0,none⟩=some (.int .i64 a0_0):=(blk_cell BK143.out 0).trans rfl;have hcz21_1:w19.cell? ⟨gb143,1,none⟩=some (.int .i64 a0_1):=(blk_cell BK143.out 1).trans rfl;have hcz21_2:w19.cell? ⟨gb143,2,none⟩=some (.int .i64 a0_2):=(blk_cell BK143.out 2).trans rfl;have hcz21_3:w19.cell? ⟨gb143,3,none⟩=some (.int .i64 a0_3):=(blk_cell BK143.out 3).trans rfl;have hcz21_4:w19.cell? ⟨gb143,4,none⟩=some (.slice A0_4 l0_4.length c0_4):=(blk_cell BK143.out 4).trans rfl;have hfz21_0:=blk_frozen BK143.out 0;have hfz21_1:=blk_frozen BK143.out 1;have hfz21_2:=blk_frozen BK143.out 2;have hfz21_3:=blk_frozen BK143.out 3;have hfz21_4:=blk_frozen BK143.out 4;have hcz22_0:w19.cell? ⟨gb144,0,none⟩=some (.int .i64 a1_0):=(blk_cell BK144.out 0).trans rfl;have hcz22_1:w19.cell? ⟨gb144,1,none⟩=some (.int .i64 a1_1):=(blk_cell BK144.out 1).trans rfl;have hcz22_2:w19.cell? ⟨gb144,2,none⟩=some (.int .i64 a1_2):=(blk_cell BK144.out 2).trans rfl;have hcz22_3:w19.cell? ⟨gb144,3,none⟩=some (.int .i64 a1_3):=(blk_cell BK144.out 3).trans rfl;have hcz22_4:w19.cell? ⟨gb144,4,none⟩=some (.slice A1_4 l1_4.length c1_4):=(blk_cell BK144.out 4).trans rfl;have hfz22_0:=blk_frozen BK144.out 0;have hfz22_1:=blk_frozen BK144.out 1;have hfz22_2:=blk_frozen BK144.out 2;have hfz22_3:=blk_frozen BK144.out 3;have hfz22_4:=blk_frozen BK144.out 4))
    go_ret
    exact ⟨by first|rfl|(simp [errW_none,errW_some]<;>rfl)|(simp [*,errW_none,errW_some]<;>rfl),by repeat (first|(with_reducible first|exact HB.out|apply below_alloc|apply pw_below_drewN|apply below_drew1|refine below_set ?_ GE143.out|refine below_set ?_ GE144.out)|exact HB.out)⟩
  ·rw [if_neg c4] at H
   have c4b0:(a0_1 == a1_1)=false:=beq_eq_false_iff_ne.mpr c4
   have c4b1:(a0_1 != a1_1)=true:=bne_iff_ne.mpr c4
   obtain rfl:=Option.some.inj H
   go_enter Tryd.func38,Tryd.ntmps38
   go_wp2_with (first|((with_reducible refine gate_dst (N:=2) rfl ?_);refine box_event ?hg (N:=2) ?hd (cs:=#[.int .i64 a0_0,.int .i64 a0_1,.int .i64 a0_2,.int .i64 a0_3,.slice A0_4 l0_4.length c0_4]) (t:=41) ?hr ?_;(case hd=>rfl);(case hg=>rfl);(case hr=>first|(go_simp;done)|(go_simp;rfl));intro gb143 hg w23 hbox hb;have n0_:=Aside0.mk (below_step (by repeat (first|(with_reducible first|exact HB.out|apply below_alloc|apply pw_below_drewN|apply below_drew1)|exact HB.out)) hb);have n1_:=Aside0.mk (hbox);have n2_:=Aside0.mk ((by rw [hg];exact (below_size (by repeat (first|(with_reducible first|exact HB.out|apply below_alloc|apply pw_below_drewN|apply below_drew1)|exact HB.out))):w.heap.size≤gb143));have n3_:=Aside0.mk ((by rw [hg];exact (below_size (by repeat (first|(with_reducible first|exact HB.out|apply below_alloc|apply pw_below_drewN|apply below_drew1)|exact HB.out))):w.heap.size≤gb143));clear HB;have HB:=n0_;have BK143:=n1_;have GW143:=n2_;have GE143:=n3_;clear n0_ n1_ n2_ n3_;clear hb hbox hg)|((with_reducible refine gate_dst (N:=3) rfl ?_);refine box_event ?hg (N:=3) ?hd (cs:=#[.int .i64 a1_0,.int .i64 a1_1,.int .i64 a1_2,.int .i64 a1_3,.slice A1_4 l1_4.length c1_4]) (t:=41) ?hr ?_;(case hd=>rfl);(case hg=>rfl);(case hr=>first|(go_simp;done)|(go_simp;rfl));intro gb144 hg w24 hbox hb;have n0_:=Aside0.mk (blk_below (g:=gb143) (o:=.cells #[.int .i64 a0_0,.int .i64 a0_1,.int .i64 a0_2,.int .i64 a0_3,.slice A0_4 l0_4.length c0_4] 41 (0,0)) (by (with_reducible repeat (first|refine blk_drewN ?_ _|refine blk_drew ?_|refine blk_alloc ?_ _));exact BK143.out) hb);have n1_:=Aside0.mk (below_step (by repeat (first|(with_reducible first|exact HB.out|apply below_alloc|apply pw_below_drewN|apply below_drew1|refine below_set ?_ GE143.out)|exact HB.out)) hb);have n2_:=Aside0.mk (hbox);have n3_:=Aside0.mk ((by rw [hg];exact (below_size (by repeat (first|(with_reducible first|exact HB.out|apply below_alloc|apply pw_below_drewN|apply below_drew1|refine below_set ?_ GE143.out)|exact HB.out))):w.heap.size≤gb144));have n4_:=Aside0.mk ((by rw [hg];exact (below_size (by repeat (first|(with_reducible first|exact HB.out|apply below_alloc|apply pw_below_drewN|apply below_drew1|refine below_set ?_ GE143.out)|exact HB.out))):w.heap.size≤gb144));have n5_:=Aside0.mk ((by rw [hg];exact Nat.ne_of_lt (blk_lt (g:=gb143) (o:=.cells #[.int .i64 a0_0,.int .i64 a0_1,.int .i64 a0_2,.int .i64 a0_3,.slice A0_4 l0_4.length c0_4] 41 (0,0)) (by (with_reducible repeat (first|refine blk_drewN ?_ _|refine blk_drew ?_|refine blk_alloc ?_ _));exact BK143.out)):gb143≠gb144));have n6_:=Aside0.mk ((by rw [hg];exact Nat.ne_of_gt (blk_lt (g:=gb143) (o:=.cells #[.int .i64 a0_0,.int .i64 a0_1,.int .i64 a0_2,.int .i64 a0_3,.slice A0_4 l0_4.length c0_4] 41 (0,0)) (by (with_reducible repeat (first|refine blk_drewN ?_ _|refine blk_drew ?_|refine blk_alloc ?_ _));exact BK143.out)):gb144≠gb143));clear BK143;clear HB;have BK143:=n0_;have HB:=n1_;have BK144:=n2_;have GW144:=n3_;have GE144:=n4_;have NB143_144:=n5_;have NB144_143:=n6_;clear n0_ n1_ n2_ n3_ n4_ n5_ n6_;clear hb hbox hg;have hnb25:=NB143_144.out;have hnc25:=NB144_143.out;have hcz26_0:w24.cell? ⟨gb143,0,none⟩=some (.int .i64 a0_0):=(blk_cell BK143.out 0).trans rfl;have hcz26_1:w24.cell? ⟨gb143,1,none⟩=some (.int .i64 a0_1):=(blk_cell BK143.out 1).trans rfl;have hcz26_2:w24.cell? ⟨gb143,2,none⟩=some (.int .i64 a0_2):=(blk_cell BK143.out 2).trans rfl;have hcz26_3:w24.cell? ⟨gb143,3,none⟩=some (.int .i64 a0_3):=(blk_cell BK143.out 3).trans rfl;have hcz26_4:w24.cell? ⟨gb143,4,none⟩=some (.slice A0_4 l0_4.length c0_4):=(blk_cell BK143.out 4).trans rfl;have hfz26_0:=blk_frozen BK143.out 0;have hfz26_1:=blk_frozen BK143.out 1;have hfz26_2:=blk_frozen BK143.out 2;have hfz26_3:=blk_frozen BK143.out 3;have hfz26_4:=blk_frozen BK143.out 4;have hcz27_0:w24.cell? ⟨gb144,0,none⟩=some (.int .i64 a1_0):=(blk_cell BK144.out 0).trans rfl;have hcz27_1:w24.cell? ⟨gb144,1,none⟩=some (.int .i64 a1_1):=(blk_cell BK144.out 1).trans rfl;have hcz27_2:w24.cell? ⟨gb144,2,none⟩=some (.int .i64 a1_2):=(blk_cell BK144.out 2).trans rfl;have hcz27_3:w24.cell? ⟨gb144,3,none⟩=some (.int .i64 a1_3):=(blk_cell BK144.out 3).trans rfl;have hcz27_4:w24.cell? ⟨gb144,4,none⟩=some (.slice A1_4 l1_4.length c1_4):=(blk_cell BK144.out 4).trans rfl;have hfz27_0:=blk_frozen BK144.out 0;have hfz27_1:=blk_frozen BK144.out 1;have hfz27_2:=blk_frozen BK144.out 2;have hfz27_3:=blk_frozen BK144.out 3;have hfz27_4:=blk_frozen BK144.out 4))
   go_ret
   exact ⟨by first|rfl|(simp [errW_none,errW_some]<;>rfl)|(simp [*,errW_none,errW_some]<;>rfl),by repeat (first|(with_reducible first|exact HB.out|apply below_alloc|apply pw_below_drewN|apply below_drew1|refine below_set ?_ GE143.out|refine below_set ?_ GE144.out)|exact HB.out)⟩
 ·rw [if_neg c3] at H
  have c3b0:(a0_0 == a1_0)=false:=beq_eq_false_iff_ne.mpr c3
  have c3b1:(a0_0 != a1_0)=true:=bne_iff_ne.mpr c3
  obtain rfl:=Option.some.inj H
  go_enter Tryd.func38,Tryd.ntmps38
  go_wp2_with (first|((with_reducible refine gate_dst (N:=2) rfl ?_);refine box_event ?hg (N:=2) ?hd (cs:=#[.int .i64 a0_0,.int .i64 a0_1,.int .i64 a0_2,.int .i64 a0_3,.slice A0_4 l0_4.length c0_4]) (t:=41) ?hr ?_;(case hd=>rfl);(case hg=>rfl);(case hr=>first|(go_simp;done)|(go_simp;rfl));intro gb143 hg w28 hbox hb;have n0_:=Aside0.mk (below_step (by repeat (first|(with_reducible first|exact HB.out|apply below_alloc|apply pw_below_drewN|apply below_drew1)|exact HB.out)) hb);have n1_:=Aside0.mk (hbox);have n2_:=Aside0.mk ((by rw [hg];exact (below_size (by repeat (first|(with_reducible first|exact HB.out|apply below_alloc|apply pw_below_drewN|apply below_drew1)|exact HB.out))):w.heap.size≤gb143));have n3_:=Aside0.mk ((by rw [hg];exact (below_size (by repeat (first|(with_reducible first|exact HB.out|apply below_alloc|apply pw_below_drewN|apply below_drew1)|exact HB.out))):w.heap.size≤gb143));clear HB;have HB:=n0_;have BK143:=n1_;have GW143:=n2_;have GE143:=n3_;clear n0_ n1_ n2_ n3_;clear hb hbox hg)|((with_reducible refine gate_dst (N:=3) rfl ?_);refine box_event ?hg (N:=3) ?hd (cs:=#[.int .i64 a1_0,.int .i64 a1_1,.int .i64 a1_2,.int .i64 a1_3,.slice A1_4 l1_4.length c1_4]) (t:=41) ?hr ?_;(case hd=>rfl);(case hg=>rfl);(case hr=>first|(go_simp;done)|(go_simp;rfl));intro gb144 hg w29 hbox hb;have n0_:=Aside0.mk (blk_below (g:=gb143) (o:=.cells #[.int .i64 a0_0,.int .i64 a0_1,.int .i64 a0_2,.int .i64 a0_3,.slice A0_4 l0_4.length c0_4] 41 (0,0)) (by (with_reducible repeat (first|refine blk_drewN ?_ _|refine blk_drew ?_|refine blk_alloc ?_ _));exact BK143.out) hb);have n1_:=Aside0.mk (below_step (by repeat (first|(with_reducible first|exact HB.out|apply below_alloc|apply pw_below_drewN|apply below_drew1|refine below_set ?_ GE143.out)|exact HB.out)) hb);have n2_:=Aside0.mk (hbox);have n3_:=Aside0.mk ((by rw [hg];exact (below_size (by repeat (first|(with_reducible first|exact HB.out|apply below_alloc|apply pw_below_drewN|apply below_drew1|refine below_set ?_ GE143.out)|exact HB.out))):w.heap.size≤gb144));have n4_:=Aside0.mk ((by rw [hg];exact (below_size (by repeat (first|(with_reducible first|exact HB.out|apply below_alloc|apply pw_below_drewN|apply below_drew1|refine below_set ?_ GE143.out)|exact HB.out))):w.heap.size≤gb144));have n5_:=Aside0.mk ((by rw [hg];exact Nat.ne_of_lt (blk_lt (g:=gb143) (o:=.cells #[.int .i64 a0_0,.int .i64 a0_1,.int .i64 a0_2,.int .i64 a0_3,.slice A0_4 l0_4.length c0_4] 41 (0,0)) (by (with_reducible repeat (first|refine blk_drewN ?_ _|refine blk_drew ?_|refine blk_alloc ?_ _));exact BK143.out)):gb143≠gb144));have n6_:=Aside0.mk ((by rw [hg];exact Nat.ne_of_gt (blk_lt (g:=gb143) (o:=.cells #[.int .i64 a0_0,.int .i64 a0_1,.int .i64 a0_2,.int .i64 a0_3,.slice A0_4 l0_4.length c0_4] 41 (0,0)) (by (with_reducible repeat (first|refine blk_drewN ?_ _|refine blk_drew ?_|refine blk_alloc ?_ _));exact BK143.out)):gb144≠gb143));clear BK143;clear HB;have BK143:=n0_;have HB:=n1_;have BK144:=n2_;have GW144:=n3_;have GE144:=n4_;have NB143_144:=n5_;have NB144_143:=n6_;clear n0_ n1_ n2_ n3_ n4_ n5_ n6_;clear hb hbox hg;have hnb30:=NB143_144.out;have hnc30:=NB144_143.out;have hcz31_0:w29.cell? ⟨gb143,0,none⟩=some (.int .i64 a0_0):=(blk_cell BK143.out 0).trans rfl;have hcz31_1:w29.cell? ⟨gb143,1,none⟩=some (.int .i64 a0_1):=(blk_cell BK143.out 1).trans rfl;have hcz31_2:w29.cell? ⟨gb143,2,none⟩=some (.int .i64 a0_2):=(blk_cell BK143.out 2).trans rfl;have hcz31_3:w29.cell? ⟨gb143,3,none⟩=some (.int .i64 a0_3):=(blk_cell BK143.out 3).trans rfl;have hcz31_4:w29.cell? ⟨gb143,4,none⟩=some (.slice A0_4 l0_4.length c0_4):=(blk_cell BK143.out 4).trans rfl;have hfz31_0:=blk_frozen BK143.out 0;have hfz31_1:=blk_frozen BK143.out 1;have hfz31_2:=blk_frozen BK143.out 2;have hfz31_3:=blk_frozen BK143.out 3;have hfz31_4:=blk_frozen BK143.out 4;have hcz32_0:w29.cell? ⟨gb144,0,none⟩=some (.int .i64 a1_0):=(blk_cell BK144.out 0).trans rfl;have hcz32_1:w29.cell? ⟨gb144,1,none⟩=some (.int .i64 a1_1):=(blk_cell BK144.out 1).trans rfl;have hcz32_2:w29.cell? ⟨gb144,2,none⟩=some (.int .i64 a1_2):=(blk_cell BK144.out 2).trans rfl;have hcz32_3:w29.cell? ⟨gb144,3,none⟩=some (.int .i64 a1_3):=(blk_cell BK144.out 3).trans rfl;have hcz32_4:w29.cell? ⟨gb144,4,none⟩=some (.slice A1_4 l1_4.length c1_4):=(blk_cell BK144.out 4).trans rfl;have hfz32_0:=blk_frozen BK144.out 0;have hfz32_1:=blk_frozen BK144.out 1;have hfz32_2:=blk_frozen BK144.out 2;have hfz32_3:=blk_frozen BK144.out 3;have hfz32_4:=blk_frozen BK144.out 4))
  go_ret
  exact ⟨by first|rfl|(simp [errW_none,errW_some]<;>rfl)|(simp [*,errW_none,errW_some]<;>rfl),by repeat (first|(with_reducible first|exact HB.out|apply below_alloc|apply pw_below_drewN|apply below_drew1|refine below_set ?_ GE143.out|refine below_set ?_ GE144.out)|exact HB.out)⟩

end Go.Proofs.YtamojbfmphainaaDoor.Pr
-- shrunk
