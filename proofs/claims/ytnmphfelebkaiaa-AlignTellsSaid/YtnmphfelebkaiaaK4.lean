/-
Several plain texts in one.
-/
import Derived.Test.YtnmphfelebkaiaaK0
import Derived.Test.YtnmphfelebkaiaaK3
set_option linter.unusedVariables false
set_option linter.unusedSimpArgs false
-- written by a program of this session's (a turned copy of the kit's printer); Lean checks it
namespace Go.Proofs.Ytnmphfelebkaiaa.Pr
open Go.RowKit Go.Proofs.YtnmphfelebkaiaaW.PrintWords Go.Proofs.YtnmphfelebkaiaaW.PrintLast Go.Proofs.YtnmphfelebkaiaaW.PrintMore
attribute [local go_sem] max2_int min2_int max_two min_two max_three min_three max_four min_four   -- for this text's walks alone

mutual
def r04_Common.l0:Nat→List ByteArray→List ByteArray→List Int→Int→Option (Int)
 | 0,_,_,_,_=>none
 | k+1,x0,x1,x5,x6=>if x6<(x0.length:Int) then (if 0≤(wrap64 ((x1.length:Int)+1)) then (if (wrap64 ((x1.length:Int)+1):Int).toNat≤35184372088832 then (r04_Common.l1 k x0 x1 x5 x6 (List.replicate (wrap64 ((x1.length:Int)+1):Int).toNat 0) 0) else (none)) else (none)) else (if 0≤(x1.length:Int) then (if (x1.length:Int)<(x5.length:Int) then (some (rd x5 (x1.length:Int))) else (none)) else (none))
def r04_Common.l1:Nat→List ByteArray→List ByteArray→List Int→Int→List Int→Int→Option (Int)
 | 0,_,_,_,_,_,_=>none
 | k+1,x0,x1,x5,x6,x7,x8=>if x8<(x1.length:Int) then (if 0≤x8 then (if x8<(x7.length:Int) then (if 0≤(wrap64 (x8+1)) then (if (wrap64 (x8+1))<(x5.length:Int) then (if (wrap64 (x8+1))<(x7.length:Int) then ((some (x7.set ((wrap64 (x8+1)):Int).toNat (mx (rd x7 x8) (rd x5 (wrap64 (x8+1)))):List Int)).bind fun y127=>(if 0≤x6 then (if x6<(x0.length:Int) then (if (rdOf ByteArray.empty x0 x6).toList=(rdOf ByteArray.empty x1 x8).toList then (if x8<(x5.length:Int) then (r04_Common.l1 k x0 x1 x5 x6 (y127.set ((wrap64 (x8+1)):Int).toNat (wrap64 ((rd x5 x8)+1))) (wrap64 (x8+1))) else (none)) else (r04_Common.l1 k x0 x1 x5 x6 y127 (wrap64 (x8+1)))) else (none)) else (none))) else (none)) else (none)) else (none)) else (none)) else (none)) else (r04_Common.l0 k x0 x1 x7 (wrap64 (x6+1)))
end
def r04_Common.f (k:Nat) (l0:List ByteArray) (l1:List ByteArray):Option (Int):=if 0≤(wrap64 ((l1.length:Int)+1)) then (if (wrap64 ((l1.length:Int)+1):Int).toNat≤35184372088832 then (r04_Common.l0 k l0 l1 (List.replicate (wrap64 ((l1.length:Int)+1):Int).toNat 0) 0) else (none)) else (none)
def r04_Common.T9:Bool × List (List Nat × List Nat):=(true,[([],[]),([],[]),([1],[1]),([],[]),([],[]),([3,4],[3,4]),([5],[5]),([],[]),([],[]),([8],[8]),([7,9],[7,9]),([10],[10]),([6,11],[6,11]),([0,2,0,1,2,3,4,5,6,7,8,9,10,11,12],[0,2]),([13,12,0,1,2,3,4,5,6,7,8,9,10,11,12],[12,13])])
def r04_Common.B9:List Nat:=[0,0,2,0,0,24,56,0,0,256,896,1920,4088,8191,16383]
theorem r04_Common.tab9:rtab .any (opsOf Try.f34 9)=r04_Common.T9:=by kernel_rfl
theorem r04_Common.bits9:waitsOk r04_Common.T9.2 r04_Common.B9=true:=by kernel_rfl
def r04_Common.T10:Bool × List (List Nat × List Nat):=(true,[([],[]),([],[]),([0,1],[0,1]),([2],[2]),([],[]),([],[]),([4,5],[4,5]),([6],[6]),([3,7],[3,7])])
def r04_Common.B10:List Nat:=[0,0,3,7,0,0,48,112,255]
theorem r04_Common.tab10:rtab .any (opsOf Try.f34 10)=r04_Common.T10:=by kernel_rfl
theorem r04_Common.bits10:waitsOk r04_Common.T10.2 r04_Common.B10=true:=by kernel_rfl
set_option maxHeartbeats 8000000 in
set_option maxRecDepth 100000 in
theorem r04_Common.calls (k:Nat) (A0:Option Addr) (c0:Nat) (l0:List ByteArray) (A1:Option Addr) (c1:Nat) (l1:List ByteArray) (r:Int) (w:World) (hr0:Kd.C Kd.string w A0 l0.length l0) (hc0:l0.length≤c0) (hr1:Kd.C Kd.string w A1 l1.length l1) (hc1:l1.length≤c1) (h:r04_Common.f k l0 l1=some r) :
  Calls Try.prog 34 #[.slice A0 l0.length c0,.slice A1 l1.length c1] w fun e w'=>e=.returned (.int .i64 r)∧Below w.heap.size w w':=by
 have HR0:=Aside0.mk hr0
 have HC0:=Aside0.mk hc0
 clear hr0 hc0
 have HR1:=Aside0.mk hr1
 have HC1:=Aside0.mk hc1
 clear hr1 hc1
 have HB:=Aside0.mk (Below.refl w.heap.size w)
 have H:(if 0≤(wrap64 ((l1.length:Int)+1)) then (if (wrap64 ((l1.length:Int)+1):Int).toNat≤35184372088832 then (r04_Common.l0 k l0 l1 (List.replicate (wrap64 ((l1.length:Int)+1):Int).toNat 0) 0) else (none)) else (none))=some r:=h
 clear h
 obtain ⟨ji3,hji3⟩:∃ j_:Int,(wrap64 ((l1.length:Int)+1))=j_:=⟨_,rfl⟩
 replace H:(if 0≤(ji3) then (if (ji3:Int).toNat≤35184372088832 then (r04_Common.l0 k l0 l1 (List.replicate (ji3:Int).toNat 0) 0) else (none)) else (none))=some r:=by first|(rw [hji3] at H;exact H)|(simp only [hji3] at H ⊢;exact H)
 have hji3w:(IntKind.i64.wrap ((l1.length:Int)+1))=ji3:=(i64_w _).trans hji3
 by_cases c4:0≤(ji3)
 rotate_left
 ·rw [if_neg c4] at H
  exact absurd H (by simp)

 rw [if_pos c4] at H
 have c4b0:=eq_true c4
 have c4b1:decide (0≤(ji3))=true:=decide_eq_true c4
 clear c4
 by_cases c5:(ji3:Int).toNat≤35184372088832
 rotate_left
 ·rw [if_neg c5] at H
  exact absurd H (by simp)
 rw [if_pos c5] at H
 have c5b0:=eq_true c5
 have c5b1:decide ((ji3:Int).toNat≤35184372088832)=true:=decide_eq_true c5
 clear c5
 obtain ⟨y118,hy118⟩:∃ y_:List Int,y_=(List.replicate (ji3:Int).toNat 0):=⟨_,rfl⟩
 replace H:(r04_Common.l0 k l0 l1 y118 0)=some r:=by first|(rw [hy118];with_reducible exact H)|(have H2_:=(Option.bind_some _ _).symm.trans H;rw [hy118];with_reducible exact H2_)|(have H2_:=(Option.bind_some _ _).symm.trans H;with_reducible exact H2_)|with_reducible exact H|(rw [hy118];exact H)|exact H
 have Ny118:=Aside0.mk hy118
 clear hy118
 have H':=Aside0.mk H
 clear H
 go_enter Try.func34,Try.ntmps34
 go_wp2_with (first|((with_reducible refine gate_dst (N:=12) rfl ?_);refine Kd.R_make (Kd.int .i64) _ 3 rfl (N:=12) rfl 49 _ _ rfl ji3 rfl rfl Try.underlying49 (.int .i64 0) 8 info3 rfl (by decide) (by omega) 0 (ok:=fun _=>True) (okp:=fun _=>True) rfl (fun _ hk=>hk) trivial (of_decide_eq_true asm) (Nat.le_trans (Nat.mul_le_mul_right _ (of_decide_eq_true asm:ji3.toNat≤35184372088832)) (by omega)) (Below.refl _ _) (Nat.le_refl _) ?_;intro v119 w6 ho7 hb hg_ hnew_;clear hg_ hnew_;(first|rw [← Ny118.out] at ho7|(simp only [Int.reduceToNat] at ho7;rw [← Ny118.out] at ho7));have n0_:=Aside0.mk (Kd.R_lower ho7 (below_size bel));have n1_:=Aside0.mk (below_step bel hb);clear HB;have HO120:=n0_;have HB:=n1_;clear n0_ n1_;clear hb ho7))
 go_loopg [5,6] k (fun kq v5 v6 w'=>∃ (x5_1:List Int) (x6_1:Int),v6=.int .i64 x6_1∧Aside0 (r04_Common.l0 kq l0 l1 x5_1 x6_1=some r)∧Aside0 (kq≤k)∧Aside0 (Kd.R (Kd.int .i64) 3 w' w.heap.size (fun _=>True) v5 x5_1)∧Aside0 (Below w.heap.size w w'))
 case atStart=>exact ⟨(y118),(0),rx,H',⟨Nat.le_refl _⟩,⟨by (with_reducible repeat (first|apply Kd.R_alloc|apply Kd.R_drewN|apply Kd.R_drew));exact HO120.out⟩,⟨by repeat (first|(with_reducible first|exact HB.out|apply below_alloc|apply pw_below_drewN|apply below_drew1)|exact HB.out)⟩⟩
 case round =>
  clear H'
  try clear c1
  try clear p2
  try clear c3
  try clear c4
  try clear c4b0
  try clear c4b1
  try clear c5
  try clear c5b0
  try clear c5b1
  try clear p6
  obtain ⟨x5_1,x6_1,rfl,HA,HK1,HO_5,HB⟩:=hrel
  cases gk with
  | zero=>exact absurd HA.out (by simp [r04_Common.l0])
  | succ k1 =>
   have H:=HA.out
   clear HA
   simp only [r04_Common.l0] at H
   by_cases c8:x6_1<(l0.length:Int)
   rotate_left
   ·rw [if_neg c8] at H
    have c8b0:decide (x6_1<(l0.length:Int))=false:=decide_eq_false c8
    clear c8
    by_cases c42:0≤(l1.length:Int)
    rotate_left
    ·rw [if_neg c42] at H
     exact absurd H (by simp)
    rw [if_pos c42] at H
    have c42b0:decide (0≤(l1.length:Int))=true:=decide_eq_true c42
    have c42b1:decide (0≤l1.length)=true:=decide_eq_true (by omega)
    clear c42
    by_cases c43:(l1.length:Int)<(x5_1.length:Int)
    rotate_left
    ·rw [if_neg c43] at H
     exact absurd H (by simp)
    rw [if_pos c43] at H
    have c43b0:decide ((l1.length:Int)<(x5_1.length:Int))=true:=decide_eq_true c43
    have c43b1:decide (l1.length<x5_1.length)=true:=decide_eq_true (Int.ofNat_lt.mp c43)
    clear c43
    obtain rfl:=Option.some.inj H
    obtain ⟨Ao44,co44,eo44⟩:=Kd.R_slice HO_5.out
    subst eo44
    have p121:0≤((l1.length:Int):Int):=of_decide_eq_true asm
    have q121:(l1.length:Int)<(x5_1.length:Int):=of_decide_eq_true asm
    obtain ⟨ad121,e121,hx121_0⟩:=Kd.at_int (Kd.R_reads' HO_5.out).2.2 (l1.length:Int) p121 q121
    cases e121
    (try simp only [Go.IntWalk.toNatUp] at hx121_0)
    replace p121:=eq_true p121
    replace q121:=eq_true q121
    go_wp2
    go_ret
    exact ⟨by first|rfl|(simp [errW_none,errW_some]<;>rfl)|(simp only [← hji3];first|rfl|(simp [errW_none,errW_some]<;>rfl))|(simp [*,errW_none,errW_some]<;>rfl),bel⟩
   rw [if_pos c8] at H
   have c8b0:decide (x6_1<(l0.length:Int))=true:=decide_eq_true c8
   clear c8
   try clear hji3w
   obtain ⟨ji9,hji9⟩:∃ j_:Int,(wrap64 ((l1.length:Int)+1))=j_:=⟨_,rfl⟩
   replace H:(if 0≤(ji9) then (if (ji9:Int).toNat≤35184372088832 then (r04_Common.l1 k1 l0 l1 x5_1 x6_1 (List.replicate (ji9:Int).toNat 0) 0) else (none)) else (none))=some r:=by first|(rw [hji9] at H;exact H)|(simp only [hji9] at H ⊢;exact H)
   have hji9w:(IntKind.i64.wrap ((l1.length:Int)+1))=ji9:=(i64_w _).trans hji9
   by_cases c10:0≤(ji9)
   rotate_left
   ·rw [if_neg c10] at H
    exact absurd H (by simp)
   rw [if_pos c10] at H
   have c10b0:=eq_true c10
   have c10b1:decide (0≤(ji9))=true:=decide_eq_true c10
   clear c10
   by_cases c11:(ji9:Int).toNat≤35184372088832
   rotate_left
   ·rw [if_neg c11] at H
    exact absurd H (by simp)
   rw [if_pos c11] at H
   have c11b0:=eq_true c11
   have c11b1:decide ((ji9:Int).toNat≤35184372088832)=true:=decide_eq_true c11
   clear c11
   obtain ⟨y122,hy122⟩:∃ y_:List Int,y_=(List.replicate (ji9:Int).toNat 0):=⟨_,rfl⟩
   replace H:(r04_Common.l1 k1 l0 l1 x5_1 x6_1 y122 0)=some r:=by first|(rw [hy122];with_reducible exact H)|(have H2_:=(Option.bind_some _ _).symm.trans H;rw [hy122];with_reducible exact H2_)|(have H2_:=(Option.bind_some _ _).symm.trans H;with_reducible exact H2_)|with_reducible exact H|(rw [hy122];exact H)|exact H
   have Ny122:=Aside0.mk hy122
   clear hy122
   have H':=Aside0.mk H
   clear H
   go_wp2_with (first|((with_reducible refine gate_dst (N:=22) rfl ?_);refine Kd.R_make (Kd.int .i64) _ 3 rfl (N:=22) rfl 49 _ _ rfl ji9 rfl rfl Try.underlying49 (.int .i64 0) 8 info3 rfl (by decide) (by omega) 0 (ok:=fun _=>True) (okp:=fun _=>True) rfl (fun _ hk=>hk) trivial (of_decide_eq_true asm) (Nat.le_trans (Nat.mul_le_mul_right _ (of_decide_eq_true asm:ji9.toNat≤35184372088832)) (by omega)) (Below.refl _ _) (Nat.le_refl _) ?_;intro v123 w12 ho13 hb hg_ hnew_;clear hg_ hnew_;(first|rw [← Ny122.out] at ho13|(simp only [Int.reduceToNat] at ho13;rw [← Ny122.out] at ho13));have n0_:=Aside0.mk (Kd.R_elder' (by (with_reducible repeat (first|apply Kd.R_alloc|apply Kd.R_drewN|apply Kd.R_drew));exact HO_5.out) (Kd.R_base ho13) hb);have n1_:=Aside0.mk (Kd.R_lower (Kd.R_new' ho13 (Kd.R_lt (by (with_reducible repeat (first|apply Kd.R_alloc|apply Kd.R_drewN|apply Kd.R_drew));exact HO_5.out))) (below_size bel));have n2_:=Aside0.mk (below_step bel hb);clear HO_5;clear HB;have HO_5:=n0_;have HO124:=n1_;have HB:=n2_;clear n0_ n1_ n2_;clear hb ho13))
   go_loopg [8] k1 (fun kq v8 w'=>∃ (x7_2:List Int) (x8_2:Int),v8=.int .i64 x8_2∧Aside0 (r04_Common.l1 kq l0 l1 x5_1 x6_1 x7_2 x8_2=some r)∧Aside0 (kq≤k1)∧Aside0 (Kd.R (Kd.int .i64) 3 w' w.heap.size (fun k_=>some k_≠(v123:Value).ownBlock) u5 x5_1)∧Aside0 (Kd.R (Kd.int .i64) 3 w' w.heap.size (fun k_=>some k_≠(u5:Value).ownBlock) v123 x7_2)∧Aside0 (Below w.heap.size w w'))
   case atStart=>exact ⟨(y122),(0),rx,H',⟨Nat.le_refl _⟩,⟨by (with_reducible repeat (first|apply Kd.R_alloc|apply Kd.R_drewN|apply Kd.R_drew));exact Kd.R_mono HO_5.out (fun _ hk=>hk.2)⟩,⟨by (with_reducible repeat (first|apply Kd.R_alloc|apply Kd.R_drewN|apply Kd.R_drew));exact Kd.R_mono HO124.out (fun _ hk=>hk.2)⟩,⟨by repeat (first|(with_reducible first|exact HB.out|apply below_alloc|apply pw_below_drewN|apply below_drew1)|exact HB.out)⟩⟩
   case round =>
    clear H'
    try clear c1
    try clear p2
    try clear c3
    try clear c4
    try clear c4b0
    try clear c4b1
    try clear c5
    try clear c5b0
    try clear c5b1
    try clear p6
    try clear c8
    try clear c8b0
    try clear c10
    try clear c10b0
    try clear c10b1
    try clear c11
    try clear c11b0
    try clear c11b1
    try clear p2
    try clear p6
    obtain ⟨x7_2,x8_2,rfl,HA,HK2,HO_5,HO_7,HB⟩:=hrel
    cases gk with
    | zero=>exact absurd HA.out (by simp [r04_Common.l1])
    | succ k2 =>
     have H:=HA.out
     clear HA
     simp only [r04_Common.l1] at H
     by_cases c14:x8_2<(l1.length:Int)
     rotate_left
     ·rw [if_neg c14] at H
      have c14b0:decide (x8_2<(l1.length:Int))=false:=decide_eq_false c14
      clear c14
      have H':=Aside0.mk H
      clear H
      go_wp2
      go_roundg k2
      case measure=>have:=HK1.out;have:=HK2.out;omega
      case rel=>exact ⟨(x7_2),(wrap64 (x6_1+1)),rx,H',⟨by have:=HK1.out;have:=HK2.out;omega⟩,⟨by (with_reducible repeat (first|apply Kd.R_alloc|apply Kd.R_drewN|apply Kd.R_drew));exact Kd.R_mono HO_7.out (fun _ hk=>trivial)⟩,⟨by repeat (first|(with_reducible first|exact HB.out|apply below_alloc|apply pw_below_drewN|apply below_drew1)|exact HB.out)⟩⟩
     rw [if_pos c14] at H
     have c14b0:decide (x8_2<(l1.length:Int))=true:=decide_eq_true c14
     clear c14
     by_cases c15:0≤x8_2
     rotate_left
     ·rw [if_neg c15] at H
      exact absurd H (by simp)
     rw [if_pos c15] at H
     have c15b0:decide (0≤x8_2)=true:=decide_eq_true c15
     clear c15
     by_cases c16:x8_2<(x7_2.length:Int)
     rotate_left
     ·rw [if_neg c16] at H
      exact absurd H (by simp)
     rw [if_pos c16] at H
     have c16b0:decide (x8_2<(x7_2.length:Int))=true:=decide_eq_true c16
     clear c16
     obtain ⟨ji17,hji17⟩:∃ j_:Int,(wrap64 (x8_2+1))=j_:=⟨_,rfl⟩
     replace H:(if 0≤(ji17) then (if (ji17)<(x5_1.length:Int) then (if (ji17)<(x7_2.length:Int) then ((some (x7_2.set ((ji17):Int).toNat (mx (rd x7_2 x8_2) (rd x5_1 (ji17))):List Int)).bind fun y127=>(if 0≤x6_1 then (if x6_1<(l0.length:Int) then (if (rdOf ByteArray.empty l0 x6_1).toList=(rdOf ByteArray.empty l1 x8_2).toList then (if x8_2<(x5_1.length:Int) then (r04_Common.l1 k2 l0 l1 x5_1 x6_1 (y127.set ((ji17):Int).toNat (wrap64 ((rd x5_1 x8_2)+1))) ji17) else (none)) else (r04_Common.l1 k2 l0 l1 x5_1 x6_1 y127 ji17)) else (none)) else (none))) else (none)) else (none)) else (none))=some r:=by first|(rw [hji17] at H;exact H)|(simp only [hji17] at H ⊢;exact H)
     have hji17w:(IntKind.i64.wrap (x8_2+1))=ji17:=(i64_w _).trans hji17
     by_cases c18:0≤(ji17)
     rotate_left
     ·rw [if_neg c18] at H
      exact absurd H (by simp)
     rw [if_pos c18] at H
     have c18b0:decide (0≤(ji17))=true:=decide_eq_true c18
     clear c18
     by_cases c19:(ji17)<(x5_1.length:Int)
     rotate_left
     ·rw [if_neg c19] at H
      exact absurd H (by simp)
     rw [if_pos c19] at H
     have c19b0:decide ((ji17)<(x5_1.length:Int))=true:=decide_eq_true c19
     clear c19
     obtain ⟨ji20,hji20⟩:∃ j_:Int,(mx (rd x7_2 x8_2) (rd x5_1 (ji17)))=j_:=⟨_,rfl⟩
     replace H:(if (ji17)<(x7_2.length:Int) then ((some (x7_2.set ((ji17):Int).toNat (ji20):List Int)).bind fun y127=>(if 0≤x6_1 then (if x6_1<(l0.length:Int) then (if (rdOf ByteArray.empty l0 x6_1).toList=(rdOf ByteArray.empty l1 x8_2).toList then (if x8_2<(x5_1.length:Int) then (r04_Common.l1 k2 l0 l1 x5_1 x6_1 (y127.set ((ji17):Int).toNat (wrap64 ((rd x5_1 x8_2)+1))) ji17) else (none)) else (r04_Common.l1 k2 l0 l1 x5_1 x6_1 y127 ji17)) else (none)) else (none))) else (none))=some r:=by first|(rw [hji20] at H;exact H)|(simp only [hji20] at H ⊢;exact H)
     have hji20_:(if (rd x7_2 x8_2)<(rd x5_1 (ji17)) then (rd x5_1 (ji17)) else (rd x7_2 x8_2))=ji20:=hji20
     by_cases c21:(ji17)<(x7_2.length:Int)
     rotate_left
     ·rw [if_neg c21] at H
      exact absurd H (by simp)
     rw [if_pos c21] at H
     have c21b0:decide ((ji17)<(x7_2.length:Int))=true:=decide_eq_true c21
     clear c21
     obtain ⟨y127,hy127⟩:∃ y_:List Int,y_=(x7_2.set ((ji17):Int).toNat (ji20)):=⟨_,rfl⟩
     replace H:(if 0≤x6_1 then (if x6_1<(l0.length:Int) then (if (rdOf ByteArray.empty l0 x6_1).toList=(rdOf ByteArray.empty l1 x8_2).toList then (if x8_2<(x5_1.length:Int) then (r04_Common.l1 k2 l0 l1 x5_1 x6_1 (y127.set ((ji17):Int).toNat (wrap64 ((rd x5_1 x8_2)+1))) ji17) else (none)) else (r04_Common.l1 k2 l0 l1 x5_1 x6_1 y127 ji17)) else (none)) else (none))=some r:=by first|(rw [hy127];with_reducible exact H)|(have H2_:=(Option.bind_some _ _).symm.trans H;rw [hy127];with_reducible exact H2_)|(have H2_:=(Option.bind_some _ _).symm.trans H;with_reducible exact H2_)|with_reducible exact H|(rw [hy127];exact H)|exact H
     have Ny127:=Aside0.mk hy127
     clear hy127
     by_cases c23:0≤x6_1
     rotate_left
     ·rw [if_neg c23] at H
      exact absurd H (by simp)
     rw [if_pos c23] at H
     have c23b0:decide (0≤x6_1)=true:=decide_eq_true c23
     clear c23
     by_cases c24:x6_1<(l0.length:Int)
     rotate_left
     ·rw [if_neg c24] at H
      exact absurd H (by simp)
     rw [if_pos c24] at H
     have c24b0:decide (x6_1<(l0.length:Int))=true:=decide_eq_true c24
     clear c24
     by_cases c25:(rdOf ByteArray.empty l0 x6_1).toList=(rdOf ByteArray.empty l1 x8_2).toList
     rotate_left
     ·rw [if_neg c25] at H
      have c25b0:((rdOf ByteArray.empty l0 x6_1).toList == (rdOf ByteArray.empty l1 x8_2).toList)=false:=beq_eq_false_iff_ne.mpr c25
      have c25b1:((rdOf ByteArray.empty l0 x6_1).toList != (rdOf ByteArray.empty l1 x8_2).toList)=true:=bne_iff_ne.mpr c25
      have H':=Aside0.mk H
      clear H
      try go_wp2
      have n0_:=Aside0.mk (Kd.R_drew HO_5.out)
      have n1_:=Aside0.mk (Kd.R_drew HO_7.out)
      have n2_:=Aside0.mk (below_drew1 HB.out)
      clear HO_5
      clear HO_7
      clear HB
      have HO_5:=n0_
      have HO_7:=n1_
      have HB:=n2_
      clear n0_ n1_ n2_
      obtain ⟨Ao37,co37,eo37⟩:=Kd.R_slice HO_7.out
      (first|subst eo37|(injection eo37 with f1_ f2_ f3_;have f4_:=f1_.symm;have f5_:=f3_.symm;clear f1_ f2_ f3_;subst f4_;subst f5_))
      have p125:0≤(x8_2:Int):=of_decide_eq_true asm
      have q125:x8_2<(x7_2.length:Int):=of_decide_eq_true asm
      obtain ⟨ad125,e125,hx125_0⟩:=Kd.at_int (Kd.R_reads' HO_7.out).2.2 x8_2 p125 q125
      cases e125
      replace p125:=eq_true p125
      replace q125:=eq_true q125
      obtain ⟨Ao38,co38,eo38⟩:=Kd.R_slice HO_5.out
      (first|subst eo38|(injection eo38 with f1_ f2_ f3_;have f4_:=f1_.symm;have f5_:=f3_.symm;clear f1_ f2_ f3_;subst f4_;subst f5_))
      have p126:0≤((ji17):Int):=of_decide_eq_true asm
      have q126:(ji17)<(x5_1.length:Int):=of_decide_eq_true asm
      obtain ⟨ad126,e126,hx126_0⟩:=Kd.at_int (Kd.R_reads' HO_5.out).2.2 (ji17) p126 q126
      cases e126
      replace p126:=eq_true p126
      replace q126:=eq_true q126
      have p22:0≤((ji17):Int):=of_decide_eq_true asm
      have q22:((ji17):Int)<((x7_2.length:Int):Int):=of_decide_eq_true asm
      obtain ⟨go22,co22,eo22,gb22,gl22,cl22,HG22⟩:=Kd.R_form HO_7.out (by omega)
      (first|cases eo22|(injection eo22 with ea_ en_ ec_;(first|subst ea_|(injection ea_ with ea_;subst ea_));subst ec_;clear en_))
      have GB22:=Aside0.mk gb22
      have GG22:=Aside0.mk HG22
      clear gb22 gl22 HG22
      (first|simp only [add_plain] at hx125_0|skip)
      obtain ⟨hx22_0,hf22_0⟩:=Kd.R_celln 0 HO_7.out ((ji17):Int) p22 q22
      replace p22:=eq_true p22
      replace q22:=eq_true q22
      have HP39:=Kd.R_putn HO_7.out ((ji17):Int) ji20
      rw [← Ny127.out] at HP39
      have HQ39:=Aside0.mk HP39
      clear HP39
      refine start_ (n:=15) (S:=fun w'=>w'.cell? ⟨go22,(x8_2).toNat,none⟩=some (.int .i64 (rd x7_2 x8_2))∧w'.cell? (ad126.add ((ji17)).toNat)=some (.int .i64 (rd x5_1 (ji17)))) (ds:=[14]) #[false,false,false,false,false,false,false,false,false,false,false,false,false,false,false] (by kernel_rfl) rfl rfl ⟨hx125_0,hx126_0⟩ (fun hHeld=>?_);refine with_tabW r04_Common.tab9 r04_Common.bits9 (fun HT_ HW_=>?_)
      generalize wr.drew=w36 at HO_5 HO_7 HB GG22 HQ39 hf22_0 hx125_0 hx126_0 hx22_0 hHeld ⊢
      refine pure_ (i:=0) (N:=some 29) (v:=?_) (a':=?_) #[true,false,false,false,false,false,false,false,false,false,false,false,false,false,false] rfl rfl (any_of HT_.out (by kernel_rfl)) (fun _ _ _ h=>h) (Or.inl ⟨by rfl,?_⟩) ?_ ?_
      rotate_left
      ·intro w'
       go_simp
       with_reducible rfl
      rotate_left
      ·simp only [Act.put,List.setIfInBounds_toArray,List.set_cons_zero,List.set_cons_succ,i64_w,i32_w]
       rfl
      refine pure_ (i:=1) (N:=some 30) (v:=?_) (a':=?_) #[true,true,false,false,false,false,false,false,false,false,false,false,false,false,false] rfl rfl (any_of HT_.out (by kernel_rfl)) (fun _ _ _ h=>h) (Or.inl ⟨by rfl,?_⟩) ?_ ?_
      rotate_left
      ·intro w'
       go_simp
       with_reducible rfl
      rotate_left
      ·simp only [Act.put,List.setIfInBounds_toArray,List.set_cons_zero,List.set_cons_succ,i64_w,i32_w]
       rfl
      refine pure_ (i:=2) (N:=some 31) (v:=?_) (a':=?_) #[true,true,true,false,false,false,false,false,false,false,false,false,false,false,false] rfl rfl (any_of HT_.out (by kernel_rfl)) (fun _ _ _ h=>h) (Or.inl ⟨by rfl,?_⟩) ?_ ?_
      rotate_left
      ·intro w'
       go_simp
       with_reducible rfl
      rotate_left
      ·simp only [Act.put,List.setIfInBounds_toArray,List.set_cons_zero,List.set_cons_succ,i64_w,i32_w]
       rfl
      refine pure_ (i:=3) (N:=some 32) (v:=?_) (a':=?_) #[true,true,true,true,false,false,false,false,false,false,false,false,false,false,false] rfl rfl (any_of HT_.out (by kernel_rfl)) (fun _ _ _ h=>h) (Or.inl ⟨by rfl,?_⟩) ?_ ?_
      rotate_left
      ·intro w'
       go_simp
       with_reducible rfl
      rotate_left
      ·simp only [Act.put,List.setIfInBounds_toArray,List.set_cons_zero,List.set_cons_succ,i64_w,i32_w]
       rfl
      refine pure_ (i:=4) (N:=some 33) (v:=?_) (a':=?_) #[true,true,true,true,true,false,false,false,false,false,false,false,false,false,false] rfl rfl (any_of HT_.out (by kernel_rfl)) (fun _ _ _ h=>h) (Or.inl ⟨by rfl,?_⟩) ?_ ?_
      rotate_left
      ·intro w'
       go_simp
       with_reducible rfl
      rotate_left
      ·simp only [Act.put,List.setIfInBounds_toArray,List.set_cons_zero,List.set_cons_succ,i64_w,i32_w]
       rfl
      refine pure_ (i:=5) (N:=some 34) (v:=?_) (a':=?_) #[true,true,true,true,true,true,false,false,false,false,false,false,false,false,false] rfl rfl (any_of HT_.out (by kernel_rfl)) (fun _ _ _ h=>h) (Or.inl ⟨by rfl,?_⟩) ?_ ?_
      rotate_left
      ·intro w'
       go_simp
       with_reducible rfl
      rotate_left
      ·simp only [Act.put,List.setIfInBounds_toArray,List.set_cons_zero,List.set_cons_succ,i64_w,i32_w]
       rfl
      refine pure_ (i:=7) (N:=some 36) (v:=?_) (a':=?_) #[true,true,true,true,true,true,false,true,false,false,false,false,false,false,false] rfl rfl (any_of HT_.out (by kernel_rfl)) (fun _ _ _ h=>h) (Or.inl ⟨by rfl,?_⟩) ?_ ?_
      rotate_left
      ·intro w'
       go_simp
       with_reducible rfl
      rotate_left
      ·simp only [Act.put,List.setIfInBounds_toArray,List.set_cons_zero,List.set_cons_succ,i64_w,i32_w]
       rfl
      refine pure_ (i:=8) (N:=some 37) (v:=?_) (a':=?_) #[true,true,true,true,true,true,false,true,true,false,false,false,false,false,false] rfl rfl (any_of HT_.out (by kernel_rfl)) (fun _ _ _ h=>h) (Or.inl ⟨by rfl,?_⟩) ?_ ?_
      rotate_left
      ·intro w'
       go_simp
       with_reducible rfl
      rotate_left
      ·simp only [Act.put,List.setIfInBounds_toArray,List.set_cons_zero,List.set_cons_succ,i64_w,i32_w]
       rfl
      refine pure_ (i:=9) (N:=some 38) (v:=?_) (a':=?_) #[true,true,true,true,true,true,false,true,true,true,false,false,false,false,false] rfl rfl (any_of HT_.out (by kernel_rfl)) (fun _ _ _ h=>h) (Or.inl ⟨by rfl,?_⟩) ?_ ?_
      rotate_left
      ·intro w'
       go_simp
       with_reducible rfl
      rotate_left
      ·simp only [Act.put,List.setIfInBounds_toArray,List.set_cons_zero,List.set_cons_succ,i64_w,i32_w]
       rfl
      refine pure_ (i:=10) (N:=some 39) (v:=?_) (a':=?_) #[true,true,true,true,true,true,false,true,true,true,true,false,false,false,false] rfl rfl (any_of HT_.out (by kernel_rfl)) (fun _ _ _ h=>h) (Or.inl ⟨by rfl,?_⟩) ?_ ?_
      rotate_left
      ·intro w'
       go_simp
       with_reducible rfl
      rotate_left
      ·simp only [Act.put,List.setIfInBounds_toArray,List.set_cons_zero,List.set_cons_succ,i64_w,i32_w]
       rfl
      refine take_ (i:=6) (N:=some 35) (v:=?_) (a':=?_) #[true,true,true,true,true,true,true,true,true,true,true,false,false,false,false] rfl rfl (take_ofW HT_.out HW_.out (by kernel_rfl)) (fun _ _ _ h=>h) (Or.inl ⟨by rfl,?_⟩) hHeld ?_ ?_
      rotate_left
      ·rintro w' ⟨s0,s1⟩
       go_simp
       with_reducible rfl
      rotate_left
      ·simp only [Act.put,List.setIfInBounds_toArray,List.set_cons_zero,List.set_cons_succ,i64_w,i32_w]
       rfl
      refine take_ (i:=11) (N:=some 40) (v:=?_) (a':=?_) #[true,true,true,true,true,true,true,true,true,true,true,true,false,false,false] rfl rfl (take_ofW HT_.out HW_.out (by kernel_rfl)) (fun _ _ _ h=>h) (Or.inl ⟨by rfl,?_⟩) hHeld ?_ ?_
      rotate_left
      ·rintro w' ⟨s0,s1⟩
       go_simp
       with_reducible rfl
      rotate_left
      ·simp only [Act.put,List.setIfInBounds_toArray,List.set_cons_zero,List.set_cons_succ,i64_w,i32_w]
       rfl
      refine pure_ (i:=12) (N:=some 41) (v:=?_) (a':=?_) #[true,true,true,true,true,true,true,true,true,true,true,true,true,false,false] rfl rfl (any_of HT_.out (by kernel_rfl)) (fun _ _ _ h=>h) (Or.inl ⟨by rfl,?_⟩) ?_ ?_
      rotate_left
      ·intro w'
       go_simp
       with_reducible rfl
      rotate_left
      ·simp only [Act.put,List.setIfInBounds_toArray,List.set_cons_zero,List.set_cons_succ,i64_w,i32_w]
       rfl
      refine pure_ (i:=13) (N:=some 42) (v:=?_) (a':=?_) #[true,true,true,true,true,true,true,true,true,true,true,true,true,true,false] rfl rfl (any_of HT_.out (by kernel_rfl)) (fun _ _ _ h=>h) (Or.inl ⟨by rfl,?_⟩) ?_ ?_
      rotate_left
      ·intro w'
       go_simp
       with_reducible rfl
      rotate_left
      ·simp only [Act.put,List.setIfInBounds_toArray,List.set_cons_zero,List.set_cons_succ,i64_w,i32_w]
       rfl
      refine last_ (i:=14) (N:=none) #[true,true,true,true,true,true,true,true,true,true,true,true,true,true,true] rfl rfl (one_of HT_.out (by kernel_rfl)) (by decide) (fun K hK=>?_)
      refine skip_ (w1:=?_) (by rfl) rfl ?_ ?_
      rotate_left
      ·go_simp
       rfl
      refine hK.out _ _ ?_
      clear hK K
      refine done_ (done_of HT_.out (by kernel_rfl)) ?_
      try go_wp2
      have n0_:Aside0 (Kd.R (Kd.int .i64) 3 (w36.setCell ⟨go22,((ji17):Int).toNat,none⟩ (.int .i64 ji20)) w.heap.size (fun k_=>some k_≠(.slice (some ⟨go22,0,none⟩) x7_2.length co37:Value).ownBlock) (.slice (some ad126) x5_1.length co38) x5_1):=⟨by (with_reducible repeat (first|apply Kd.R_alloc|apply Kd.R_drewN|apply Kd.R_drew));exact Kd.R_mono (Kd.R_far (p:=⟨go22,((ji17):Int).toNat,none⟩) (Kd.R_mono HO_5.out (fun k_ hk=>(⟨hk,fun e_=>hk (by rw [e_];rfl)⟩:_∧k_≠go22))) (fun _ hk=>hk.2) (.int .i64 ji20)) (fun _ hk=>hk.1)⟩
      have n1_:Aside0 (Kd.R (Kd.int .i64) 3 (w36.setCell ⟨go22,((ji17):Int).toNat,none⟩ (.int .i64 ji20)) w.heap.size (fun k_=>some k_≠(.slice (some ad126) x5_1.length co38:Value).ownBlock) (.slice (some ⟨go22,0,none⟩) x7_2.length co37) y127):=⟨by (with_reducible repeat (first|apply Kd.R_alloc|apply Kd.R_drewN|apply Kd.R_drew));exact HQ39.out⟩
      have n2_:Aside0 (Below w.heap.size w (w36.setCell ⟨go22,((ji17):Int).toNat,none⟩ (.int .i64 ji20))):=⟨by repeat (first|(with_reducible first|exact HB.out|apply below_alloc|apply pw_below_drewN|apply below_drew1|refine below_set ?_ GB22.out)|exact HB.out)⟩
      (try clear HO_5)
      (try clear HO_7)
      (try clear HB)
      generalize (w36.setCell ⟨go22,((ji17):Int).toNat,none⟩ (.int .i64 ji20))=w40 at n0_ n1_ n2_ ⊢
      have HO_5:=n0_
      have HO_7:=n1_
      have HB:=n2_
      clear n0_ n1_ n2_
      have n0_:=Aside0.mk (Kd.R_drew HO_5.out)
      have n1_:=Aside0.mk (Kd.R_drew HO_7.out)
      have n2_:=Aside0.mk (below_drew1 HB.out)
      clear HO_5
      clear HO_7
      clear HB
      have HO_5:=n0_
      have HO_7:=n1_
      have HB:=n2_
      clear n0_ n1_ n2_
      have p128:0≤(x6_1:Int):=of_decide_eq_true asm
      have q128:x6_1<(l0.length:Int):=of_decide_eq_true asm
      obtain ⟨ad128,e128,hx128_0⟩:=Kd.at_string HR0.out x6_1 p128 q128
      have hw128_0:=hx128_0
      cases e128
      replace hx128_0:=pw_cell_below HB.out hx128_0
      replace p128:=eq_true p128
      replace q128:=eq_true q128
      have p129:0≤(x8_2:Int):=of_decide_eq_true asm
      have q129:x8_2<(l1.length:Int):=of_decide_eq_true asm
      obtain ⟨ad129,e129,hx129_0⟩:=Kd.at_string HR1.out x8_2 p129 q129
      have hw129_0:=hx129_0
      cases e129
      replace hx129_0:=pw_cell_below HB.out hx129_0
      replace p129:=eq_true p129
      replace q129:=eq_true q129
      refine start_ (n:=9) (S:=fun w'=>w'.cell? (ad128.add (x6_1).toNat)=some (.string (rdOf ByteArray.empty l0 x6_1))∧w'.cell? (ad129.add (x8_2).toNat)=some (.string (rdOf ByteArray.empty l1 x8_2))) (ds:=[]) #[false,false,false,false,false,false,false,false,false] (by kernel_rfl) rfl rfl ⟨((HB.out.cell (World.block_lt_of_cell? w _ hw128_0)).trans hw128_0),((HB.out.cell (World.block_lt_of_cell? w _ hw129_0)).trans hw129_0)⟩ (fun hHeld=>?_);refine with_tabW r04_Common.tab10 r04_Common.bits10 (fun HT_ HW_=>?_)
      generalize w40.drew=w41 at HO_5 HO_7 HB HQ39 hx128_0 hx129_0 hHeld ⊢
      refine pure_ (i:=0) (N:=some 43) (v:=?_) (a':=?_) #[true,false,false,false,false,false,false,false,false] rfl rfl (any_of HT_.out (by kernel_rfl)) (fun _ _ _ h=>h) (Or.inl ⟨by rfl,?_⟩) ?_ ?_
      rotate_left
      ·intro w'
       go_simp
       with_reducible rfl
      rotate_left
      ·simp only [Act.put,List.setIfInBounds_toArray,List.set_cons_zero,List.set_cons_succ,i64_w,i32_w]
       rfl
      refine pure_ (i:=1) (N:=some 44) (v:=?_) (a':=?_) #[true,true,false,false,false,false,false,false,false] rfl rfl (any_of HT_.out (by kernel_rfl)) (fun _ _ _ h=>h) (Or.inl ⟨by rfl,?_⟩) ?_ ?_
      rotate_left
      ·intro w'
       go_simp
       with_reducible rfl
      rotate_left
      ·simp only [Act.put,List.setIfInBounds_toArray,List.set_cons_zero,List.set_cons_succ,i64_w,i32_w]
       rfl
      refine pure_ (i:=2) (N:=some 45) (v:=?_) (a':=?_) #[true,true,true,false,false,false,false,false,false] rfl rfl (any_of HT_.out (by kernel_rfl)) (fun _ _ _ h=>h) (Or.inl ⟨by rfl,?_⟩) ?_ ?_
      rotate_left
      ·intro w'
       go_simp
       with_reducible rfl
      rotate_left
      ·simp only [Act.put,List.setIfInBounds_toArray,List.set_cons_zero,List.set_cons_succ,i64_w,i32_w]
       rfl
      refine pure_ (i:=4) (N:=some 47) (v:=?_) (a':=?_) #[true,true,true,false,true,false,false,false,false] rfl rfl (any_of HT_.out (by kernel_rfl)) (fun _ _ _ h=>h) (Or.inl ⟨by rfl,?_⟩) ?_ ?_
      rotate_left
      ·intro w'
       go_simp
       with_reducible rfl
      rotate_left
      ·simp only [Act.put,List.setIfInBounds_toArray,List.set_cons_zero,List.set_cons_succ,i64_w,i32_w]
       rfl
      refine pure_ (i:=5) (N:=some 48) (v:=?_) (a':=?_) #[true,true,true,false,true,true,false,false,false] rfl rfl (any_of HT_.out (by kernel_rfl)) (fun _ _ _ h=>h) (Or.inl ⟨by rfl,?_⟩) ?_ ?_
      rotate_left
      ·intro w'
       go_simp
       with_reducible rfl
      rotate_left
      ·simp only [Act.put,List.setIfInBounds_toArray,List.set_cons_zero,List.set_cons_succ,i64_w,i32_w]
       rfl
      refine pure_ (i:=6) (N:=some 49) (v:=?_) (a':=?_) #[true,true,true,false,true,true,true,false,false] rfl rfl (any_of HT_.out (by kernel_rfl)) (fun _ _ _ h=>h) (Or.inl ⟨by rfl,?_⟩) ?_ ?_
      rotate_left
      ·intro w'
       go_simp
       with_reducible rfl
      rotate_left
      ·simp only [Act.put,List.setIfInBounds_toArray,List.set_cons_zero,List.set_cons_succ,i64_w,i32_w]
       rfl
      refine take_ (i:=3) (N:=some 46) (v:=?_) (a':=?_) #[true,true,true,true,true,true,true,false,false] rfl rfl (take_ofW HT_.out HW_.out (by kernel_rfl)) (fun _ _ _ h=>h) (Or.inl ⟨by rfl,?_⟩) hHeld ?_ ?_
      rotate_left
      ·rintro w' ⟨s0,s1⟩
       go_simp
       with_reducible rfl
      rotate_left
      ·simp only [Act.put,List.setIfInBounds_toArray,List.set_cons_zero,List.set_cons_succ,i64_w,i32_w]
       rfl
      refine take_ (i:=7) (N:=some 50) (v:=?_) (a':=?_) #[true,true,true,true,true,true,true,true,false] rfl rfl (take_ofW HT_.out HW_.out (by kernel_rfl)) (fun _ _ _ h=>h) (Or.inl ⟨by rfl,?_⟩) hHeld ?_ ?_
      rotate_left
      ·rintro w' ⟨s0,s1⟩
       go_simp
       with_reducible rfl
      rotate_left
      ·simp only [Act.put,List.setIfInBounds_toArray,List.set_cons_zero,List.set_cons_succ,i64_w,i32_w]
       rfl
      refine pure_ (i:=8) (N:=some 51) (v:=?_) (a':=?_) #[true,true,true,true,true,true,true,true,true] rfl rfl (any_of HT_.out (by kernel_rfl)) (fun _ _ _ h=>h) (Or.inl ⟨by rfl,?_⟩) ?_ ?_
      rotate_left
      ·intro w'
       go_simp
       with_reducible rfl
      rotate_left
      ·simp only [Act.put,List.setIfInBounds_toArray,List.set_cons_zero,List.set_cons_succ,i64_w,i32_w]
       rfl
      refine done_ (done_of HT_.out (by kernel_rfl)) ?_
      try go_wp2
      go_roundg k2
      case measure=>have:=HK1.out;have:=HK2.out;omega
      case rel=>exact ⟨(y127),(ji17),(by first|rfl|(simp;done)|(simp only [← hji17]<;>(first|rfl|simp))|(simp [*];done)),H',⟨by have:=HK1.out;have:=HK2.out;omega⟩,⟨by (with_reducible repeat (first|apply Kd.R_alloc|apply Kd.R_drewN|apply Kd.R_drew));exact HO_5.out⟩,⟨by (with_reducible repeat (first|apply Kd.R_alloc|apply Kd.R_drewN|apply Kd.R_drew));exact HO_7.out⟩,⟨by repeat (first|(with_reducible first|exact HB.out|apply below_alloc|apply pw_below_drewN|apply below_drew1)|exact HB.out)⟩⟩
     rw [if_pos c25] at H
     have c25b0:((rdOf ByteArray.empty l0 x6_1).toList == (rdOf ByteArray.empty l1 x8_2).toList)=true:=beq_iff_eq.mpr c25
     have c25b1:((rdOf ByteArray.empty l0 x6_1).toList != (rdOf ByteArray.empty l1 x8_2).toList)=false:=bne_eq_false_iff_eq.mpr c25
     clear c25
     by_cases c26:x8_2<(x5_1.length:Int)
     rotate_left
     ·rw [if_neg c26] at H
      exact absurd H (by simp)
     rw [if_pos c26] at H
     have c26b0:decide (x8_2<(x5_1.length:Int))=true:=decide_eq_true c26
     clear c26
     obtain ⟨y131,hy131⟩:∃ y_:List Int,y_=(y127.set ((ji17):Int).toNat (wrap64 ((rd x5_1 x8_2)+1))):=⟨_,rfl⟩
     replace H:(r04_Common.l1 k2 l0 l1 x5_1 x6_1 y131 ji17)=some r:=by first|(rw [hy131];with_reducible exact H)|(have H2_:=(Option.bind_some _ _).symm.trans H;rw [hy131];with_reducible exact H2_)|(have H2_:=(Option.bind_some _ _).symm.trans H;with_reducible exact H2_)|with_reducible exact H|(rw [hy131];exact H)|exact H
     have Ny131:=Aside0.mk hy131
     clear hy131
     have H':=Aside0.mk H
     clear H
     try go_wp2
     have n0_:=Aside0.mk (Kd.R_drew HO_5.out)
     have n1_:=Aside0.mk (Kd.R_drew HO_7.out)
     have n2_:=Aside0.mk (below_drew1 HB.out)
     clear HO_5
     clear HO_7
     clear HB
     have HO_5:=n0_
     have HO_7:=n1_
     have HB:=n2_
     clear n0_ n1_ n2_
     obtain ⟨Ao29,co29,eo29⟩:=Kd.R_slice HO_7.out
     (first|subst eo29|(injection eo29 with f1_ f2_ f3_;have f4_:=f1_.symm;have f5_:=f3_.symm;clear f1_ f2_ f3_;subst f4_;subst f5_))
     have p125:0≤(x8_2:Int):=of_decide_eq_true asm
     have q125:x8_2<(x7_2.length:Int):=of_decide_eq_true asm
     obtain ⟨ad125,e125,hx125_0⟩:=Kd.at_int (Kd.R_reads' HO_7.out).2.2 x8_2 p125 q125
     cases e125
     replace p125:=eq_true p125
     replace q125:=eq_true q125
     obtain ⟨Ao30,co30,eo30⟩:=Kd.R_slice HO_5.out
     (first|subst eo30|(injection eo30 with f1_ f2_ f3_;have f4_:=f1_.symm;have f5_:=f3_.symm;clear f1_ f2_ f3_;subst f4_;subst f5_))
     have p126:0≤((ji17):Int):=of_decide_eq_true asm
     have q126:(ji17)<(x5_1.length:Int):=of_decide_eq_true asm
     obtain ⟨ad126,e126,hx126_0⟩:=Kd.at_int (Kd.R_reads' HO_5.out).2.2 (ji17) p126 q126
     cases e126
     replace p126:=eq_true p126
     replace q126:=eq_true q126
     have p22:0≤((ji17):Int):=of_decide_eq_true asm
     have q22:((ji17):Int)<((x7_2.length:Int):Int):=of_decide_eq_true asm
     obtain ⟨go22,co22,eo22,gb22,gl22,cl22,HG22⟩:=Kd.R_form HO_7.out (by omega)
     (first|cases eo22|(injection eo22 with ea_ en_ ec_;(first|subst ea_|(injection ea_ with ea_;subst ea_));subst ec_;clear en_))
     have GB22:=Aside0.mk gb22
     have GG22:=Aside0.mk HG22
     clear gb22 gl22 HG22
     (first|simp only [add_plain] at hx125_0|skip)
     obtain ⟨hx22_0,hf22_0⟩:=Kd.R_celln 0 HO_7.out ((ji17):Int) p22 q22
     replace p22:=eq_true p22
     replace q22:=eq_true q22
     have HP31:=Kd.R_putn HO_7.out ((ji17):Int) ji20
     rw [← Ny127.out] at HP31
     have HQ31:=Aside0.mk HP31
     clear HP31
     refine start_ (n:=15) (S:=fun w'=>w'.cell? ⟨go22,(x8_2).toNat,none⟩=some (.int .i64 (rd x7_2 x8_2))∧w'.cell? (ad126.add ((ji17)).toNat)=some (.int .i64 (rd x5_1 (ji17)))) (ds:=[14]) #[false,false,false,false,false,false,false,false,false,false,false,false,false,false,false] (by kernel_rfl) rfl rfl ⟨hx125_0,hx126_0⟩ (fun hHeld=>?_);refine with_tabW r04_Common.tab9 r04_Common.bits9 (fun HT_ HW_=>?_)
     generalize wr.drew=w28 at HO_5 HO_7 HB GG22 HQ31 hf22_0 hx125_0 hx126_0 hx22_0 hHeld ⊢
     refine pure_ (i:=0) (N:=some 29) (v:=?_) (a':=?_) #[true,false,false,false,false,false,false,false,false,false,false,false,false,false,false] rfl rfl (any_of HT_.out (by kernel_rfl)) (fun _ _ _ h=>h) (Or.inl ⟨by rfl,?_⟩) ?_ ?_
     rotate_left
     ·intro w'
      go_simp
      with_reducible rfl
     rotate_left
     ·simp only [Act.put,List.setIfInBounds_toArray,List.set_cons_zero,List.set_cons_succ,i64_w,i32_w]
      rfl
     refine pure_ (i:=1) (N:=some 30) (v:=?_) (a':=?_) #[true,true,false,false,false,false,false,false,false,false,false,false,false,false,false] rfl rfl (any_of HT_.out (by kernel_rfl)) (fun _ _ _ h=>h) (Or.inl ⟨by rfl,?_⟩) ?_ ?_
     rotate_left
     ·intro w'
      go_simp
      with_reducible rfl
     rotate_left
     ·simp only [Act.put,List.setIfInBounds_toArray,List.set_cons_zero,List.set_cons_succ,i64_w,i32_w]
      rfl
     refine pure_ (i:=2) (N:=some 31) (v:=?_) (a':=?_) #[true,true,true,false,false,false,false,false,false,false,false,false,false,false,false] rfl rfl (any_of HT_.out (by kernel_rfl)) (fun _ _ _ h=>h) (Or.inl ⟨by rfl,?_⟩) ?_ ?_
     rotate_left
     ·intro w'
      go_simp
      with_reducible rfl
     rotate_left
     ·simp only [Act.put,List.setIfInBounds_toArray,List.set_cons_zero,List.set_cons_succ,i64_w,i32_w]
      rfl
     refine pure_ (i:=3) (N:=some 32) (v:=?_) (a':=?_) #[true,true,true,true,false,false,false,false,false,false,false,false,false,false,false] rfl rfl (any_of HT_.out (by kernel_rfl)) (fun _ _ _ h=>h) (Or.inl ⟨by rfl,?_⟩) ?_ ?_
     rotate_left
     ·intro w'
      go_simp
      with_reducible rfl
     rotate_left
     ·simp only [Act.put,List.setIfInBounds_toArray,List.set_cons_zero,List.set_cons_succ,i64_w,i32_w]
      rfl
     refine pure_ (i:=4) (N:=some 33) (v:=?_) (a':=?_) #[true,true,true,true,true,false,false,false,false,false,false,false,false,false,false] rfl rfl (any_of HT_.out (by kernel_rfl)) (fun _ _ _ h=>h) (Or.inl ⟨by rfl,?_⟩) ?_ ?_
     rotate_left
     ·intro w'
      go_simp
      with_reducible rfl
     rotate_left
     ·simp only [Act.put,List.setIfInBounds_toArray,List.set_cons_zero,List.set_cons_succ,i64_w,i32_w]
      rfl
     refine pure_ (i:=5) (N:=some 34) (v:=?_) (a':=?_) #[true,true,true,true,true,true,false,false,false,false,false,false,false,false,false] rfl rfl (any_of HT_.out (by kernel_rfl)) (fun _ _ _ h=>h) (Or.inl ⟨by rfl,?_⟩) ?_ ?_
     rotate_left
     ·intro w'
      go_simp
      with_reducible rfl
     rotate_left
     ·simp only [Act.put,List.setIfInBounds_toArray,List.set_cons_zero,List.set_cons_succ,i64_w,i32_w]
      rfl
     refine pure_ (i:=7) (N:=some 36) (v:=?_) (a':=?_) #[true,true,true,true,true,true,false,true,false,false,false,false,false,false,false] rfl rfl (any_of HT_.out (by kernel_rfl)) (fun _ _ _ h=>h) (Or.inl ⟨by rfl,?_⟩) ?_ ?_
     rotate_left
     ·intro w'
      go_simp
      with_reducible rfl
     rotate_left
     ·simp only [Act.put,List.setIfInBounds_toArray,List.set_cons_zero,List.set_cons_succ,i64_w,i32_w]
      rfl
     refine pure_ (i:=8) (N:=some 37) (v:=?_) (a':=?_) #[true,true,true,true,true,true,false,true,true,false,false,false,false,false,false] rfl rfl (any_of HT_.out (by kernel_rfl)) (fun _ _ _ h=>h) (Or.inl ⟨by rfl,?_⟩) ?_ ?_
     rotate_left
     ·intro w'
      go_simp
      with_reducible rfl
     rotate_left
     ·simp only [Act.put,List.setIfInBounds_toArray,List.set_cons_zero,List.set_cons_succ,i64_w,i32_w]
      rfl
     refine pure_ (i:=9) (N:=some 38) (v:=?_) (a':=?_) #[true,true,true,true,true,true,false,true,true,true,false,false,false,false,false] rfl rfl (any_of HT_.out (by kernel_rfl)) (fun _ _ _ h=>h) (Or.inl ⟨by rfl,?_⟩) ?_ ?_
     rotate_left
     ·intro w'
      go_simp
      with_reducible rfl
     rotate_left
     ·simp only [Act.put,List.setIfInBounds_toArray,List.set_cons_zero,List.set_cons_succ,i64_w,i32_w]
      rfl
     refine pure_ (i:=10) (N:=some 39) (v:=?_) (a':=?_) #[true,true,true,true,true,true,false,true,true,true,true,false,false,false,false] rfl rfl (any_of HT_.out (by kernel_rfl)) (fun _ _ _ h=>h) (Or.inl ⟨by rfl,?_⟩) ?_ ?_
     rotate_left
     ·intro w'
      go_simp
      with_reducible rfl
     rotate_left
     ·simp only [Act.put,List.setIfInBounds_toArray,List.set_cons_zero,List.set_cons_succ,i64_w,i32_w]
      rfl
     refine take_ (i:=6) (N:=some 35) (v:=?_) (a':=?_) #[true,true,true,true,true,true,true,true,true,true,true,false,false,false,false] rfl rfl (take_ofW HT_.out HW_.out (by kernel_rfl)) (fun _ _ _ h=>h) (Or.inl ⟨by rfl,?_⟩) hHeld ?_ ?_
     rotate_left
     ·rintro w' ⟨s0,s1⟩
      go_simp
      with_reducible rfl
     rotate_left
     ·simp only [Act.put,List.setIfInBounds_toArray,List.set_cons_zero,List.set_cons_succ,i64_w,i32_w]
      rfl
     refine take_ (i:=11) (N:=some 40) (v:=?_) (a':=?_) #[true,true,true,true,true,true,true,true,true,true,true,true,false,false,false] rfl rfl (take_ofW HT_.out HW_.out (by kernel_rfl)) (fun _ _ _ h=>h) (Or.inl ⟨by rfl,?_⟩) hHeld ?_ ?_
     rotate_left
     ·rintro w' ⟨s0,s1⟩
      go_simp
      with_reducible rfl
     rotate_left
     ·simp only [Act.put,List.setIfInBounds_toArray,List.set_cons_zero,List.set_cons_succ,i64_w,i32_w]
      rfl
     refine pure_ (i:=12) (N:=some 41) (v:=?_) (a':=?_) #[true,true,true,true,true,true,true,true,true,true,true,true,true,false,false] rfl rfl (any_of HT_.out (by kernel_rfl)) (fun _ _ _ h=>h) (Or.inl ⟨by rfl,?_⟩) ?_ ?_
     rotate_left
     ·intro w'
      go_simp
      with_reducible rfl
     rotate_left
     ·simp only [Act.put,List.setIfInBounds_toArray,List.set_cons_zero,List.set_cons_succ,i64_w,i32_w]
      rfl
     refine pure_ (i:=13) (N:=some 42) (v:=?_) (a':=?_) #[true,true,true,true,true,true,true,true,true,true,true,true,true,true,false] rfl rfl (any_of HT_.out (by kernel_rfl)) (fun _ _ _ h=>h) (Or.inl ⟨by rfl,?_⟩) ?_ ?_
     rotate_left
     ·intro w'
      go_simp
      with_reducible rfl
     rotate_left
     ·simp only [Act.put,List.setIfInBounds_toArray,List.set_cons_zero,List.set_cons_succ,i64_w,i32_w]
      rfl
     refine last_ (i:=14) (N:=none) #[true,true,true,true,true,true,true,true,true,true,true,true,true,true,true] rfl rfl (one_of HT_.out (by kernel_rfl)) (by decide) (fun K hK=>?_)
     refine skip_ (w1:=?_) (by rfl) rfl ?_ ?_
     rotate_left
     ·go_simp
      rfl
     refine hK.out _ _ ?_
     clear hK K
     refine done_ (done_of HT_.out (by kernel_rfl)) ?_
     try go_wp2
     have n0_:Aside0 (Kd.R (Kd.int .i64) 3 (w28.setCell ⟨go22,((ji17):Int).toNat,none⟩ (.int .i64 ji20)) w.heap.size (fun k_=>some k_≠(.slice (some ⟨go22,0,none⟩) x7_2.length co29:Value).ownBlock) (.slice (some ad126) x5_1.length co30) x5_1):=⟨by (with_reducible repeat (first|apply Kd.R_alloc|apply Kd.R_drewN|apply Kd.R_drew));exact Kd.R_mono (Kd.R_far (p:=⟨go22,((ji17):Int).toNat,none⟩) (Kd.R_mono HO_5.out (fun k_ hk=>(⟨hk,fun e_=>hk (by rw [e_];rfl)⟩:_∧k_≠go22))) (fun _ hk=>hk.2) (.int .i64 ji20)) (fun _ hk=>hk.1)⟩
     have n1_:Aside0 (Kd.R (Kd.int .i64) 3 (w28.setCell ⟨go22,((ji17):Int).toNat,none⟩ (.int .i64 ji20)) w.heap.size (fun k_=>some k_≠(.slice (some ad126) x5_1.length co30:Value).ownBlock) (.slice (some ⟨go22,0,none⟩) x7_2.length co29) y127):=⟨by (with_reducible repeat (first|apply Kd.R_alloc|apply Kd.R_drewN|apply Kd.R_drew));exact HQ31.out⟩
     have n2_:Aside0 (Below w.heap.size w (w28.setCell ⟨go22,((ji17):Int).toNat,none⟩ (.int .i64 ji20))):=⟨by repeat (first|(with_reducible first|exact HB.out|apply below_alloc|apply pw_below_drewN|apply below_drew1|refine below_set ?_ GB22.out)|exact HB.out)⟩
     (try clear HO_5)
     (try clear HO_7)
     (try clear HB)
     generalize (w28.setCell ⟨go22,((ji17):Int).toNat,none⟩ (.int .i64 ji20))=w32 at n0_ n1_ n2_ ⊢
     have HO_5:=n0_
     have HO_7:=n1_
     have HB:=n2_
     clear n0_ n1_ n2_
     have n0_:=Aside0.mk (Kd.R_drew HO_5.out)
     have n1_:=Aside0.mk (Kd.R_drew HO_7.out)
     have n2_:=Aside0.mk (below_drew1 HB.out)
     clear HO_5
     clear HO_7
     clear HB
     have HO_5:=n0_
     have HO_7:=n1_
     have HB:=n2_
     clear n0_ n1_ n2_
     have p128:0≤(x6_1:Int):=of_decide_eq_true asm
     have q128:x6_1<(l0.length:Int):=of_decide_eq_true asm
     obtain ⟨ad128,e128,hx128_0⟩:=Kd.at_string HR0.out x6_1 p128 q128
     have hw128_0:=hx128_0
     cases e128
     replace hx128_0:=pw_cell_below HB.out hx128_0
     replace p128:=eq_true p128
     replace q128:=eq_true q128
     have p129:0≤(x8_2:Int):=of_decide_eq_true asm
     have q129:x8_2<(l1.length:Int):=of_decide_eq_true asm
     obtain ⟨ad129,e129,hx129_0⟩:=Kd.at_string HR1.out x8_2 p129 q129
     have hw129_0:=hx129_0
     cases e129
     replace hx129_0:=pw_cell_below HB.out hx129_0
     replace p129:=eq_true p129
     replace q129:=eq_true q129
     refine start_ (n:=9) (S:=fun w'=>w'.cell? (ad128.add (x6_1).toNat)=some (.string (rdOf ByteArray.empty l0 x6_1))∧w'.cell? (ad129.add (x8_2).toNat)=some (.string (rdOf ByteArray.empty l1 x8_2))) (ds:=[]) #[false,false,false,false,false,false,false,false,false] (by kernel_rfl) rfl rfl ⟨((HB.out.cell (World.block_lt_of_cell? w _ hw128_0)).trans hw128_0),((HB.out.cell (World.block_lt_of_cell? w _ hw129_0)).trans hw129_0)⟩ (fun hHeld=>?_);refine with_tabW r04_Common.tab10 r04_Common.bits10 (fun HT_ HW_=>?_)
     generalize w32.drew=w33 at HO_5 HO_7 HB HQ31 hx128_0 hx129_0 hHeld ⊢
     refine pure_ (i:=0) (N:=some 43) (v:=?_) (a':=?_) #[true,false,false,false,false,false,false,false,false] rfl rfl (any_of HT_.out (by kernel_rfl)) (fun _ _ _ h=>h) (Or.inl ⟨by rfl,?_⟩) ?_ ?_
     rotate_left
     ·intro w'
      go_simp
      with_reducible rfl
     rotate_left
     ·simp only [Act.put,List.setIfInBounds_toArray,List.set_cons_zero,List.set_cons_succ,i64_w,i32_w]
      rfl
     refine pure_ (i:=1) (N:=some 44) (v:=?_) (a':=?_) #[true,true,false,false,false,false,false,false,false] rfl rfl (any_of HT_.out (by kernel_rfl)) (fun _ _ _ h=>h) (Or.inl ⟨by rfl,?_⟩) ?_ ?_
     rotate_left
     ·intro w'
      go_simp
      with_reducible rfl
     rotate_left
     ·simp only [Act.put,List.setIfInBounds_toArray,List.set_cons_zero,List.set_cons_succ,i64_w,i32_w]
      rfl
     refine pure_ (i:=2) (N:=some 45) (v:=?_) (a':=?_) #[true,true,true,false,false,false,false,false,false] rfl rfl (any_of HT_.out (by kernel_rfl)) (fun _ _ _ h=>h) (Or.inl ⟨by rfl,?_⟩) ?_ ?_
     rotate_left
     ·intro w'
      go_simp
      with_reducible rfl
     rotate_left
     ·simp only [Act.put,List.setIfInBounds_toArray,List.set_cons_zero,List.set_cons_succ,i64_w,i32_w]
      rfl
     refine pure_ (i:=4) (N:=some 47) (v:=?_) (a':=?_) #[true,true,true,false,true,false,false,false,false] rfl rfl (any_of HT_.out (by kernel_rfl)) (fun _ _ _ h=>h) (Or.inl ⟨by rfl,?_⟩) ?_ ?_
     rotate_left
     ·intro w'
      go_simp
      with_reducible rfl
     rotate_left
     ·simp only [Act.put,List.setIfInBounds_toArray,List.set_cons_zero,List.set_cons_succ,i64_w,i32_w]
      rfl
     refine pure_ (i:=5) (N:=some 48) (v:=?_) (a':=?_) #[true,true,true,false,true,true,false,false,false] rfl rfl (any_of HT_.out (by kernel_rfl)) (fun _ _ _ h=>h) (Or.inl ⟨by rfl,?_⟩) ?_ ?_
     rotate_left
     ·intro w'
      go_simp
      with_reducible rfl
     rotate_left
     ·simp only [Act.put,List.setIfInBounds_toArray,List.set_cons_zero,List.set_cons_succ,i64_w,i32_w]
      rfl
     refine pure_ (i:=6) (N:=some 49) (v:=?_) (a':=?_) #[true,true,true,false,true,true,true,false,false] rfl rfl (any_of HT_.out (by kernel_rfl)) (fun _ _ _ h=>h) (Or.inl ⟨by rfl,?_⟩) ?_ ?_
     rotate_left
     ·intro w'
      go_simp
      with_reducible rfl
     rotate_left
     ·simp only [Act.put,List.setIfInBounds_toArray,List.set_cons_zero,List.set_cons_succ,i64_w,i32_w]
      rfl
     refine take_ (i:=3) (N:=some 46) (v:=?_) (a':=?_) #[true,true,true,true,true,true,true,false,false] rfl rfl (take_ofW HT_.out HW_.out (by kernel_rfl)) (fun _ _ _ h=>h) (Or.inl ⟨by rfl,?_⟩) hHeld ?_ ?_
     rotate_left
     ·rintro w' ⟨s0,s1⟩
      go_simp
      with_reducible rfl
     rotate_left
     ·simp only [Act.put,List.setIfInBounds_toArray,List.set_cons_zero,List.set_cons_succ,i64_w,i32_w]
      rfl
     refine take_ (i:=7) (N:=some 50) (v:=?_) (a':=?_) #[true,true,true,true,true,true,true,true,false] rfl rfl (take_ofW HT_.out HW_.out (by kernel_rfl)) (fun _ _ _ h=>h) (Or.inl ⟨by rfl,?_⟩) hHeld ?_ ?_
     rotate_left
     ·rintro w' ⟨s0,s1⟩
      go_simp
      with_reducible rfl
     rotate_left
     ·simp only [Act.put,List.setIfInBounds_toArray,List.set_cons_zero,List.set_cons_succ,i64_w,i32_w]
      rfl
     refine pure_ (i:=8) (N:=some 51) (v:=?_) (a':=?_) #[true,true,true,true,true,true,true,true,true] rfl rfl (any_of HT_.out (by kernel_rfl)) (fun _ _ _ h=>h) (Or.inl ⟨by rfl,?_⟩) ?_ ?_
     rotate_left
     ·intro w'
      go_simp
      with_reducible rfl
     rotate_left
     ·simp only [Act.put,List.setIfInBounds_toArray,List.set_cons_zero,List.set_cons_succ,i64_w,i32_w]
      rfl
     refine done_ (done_of HT_.out (by kernel_rfl)) ?_
     have p130:0≤(x8_2:Int):=of_decide_eq_true asm
     have q130:x8_2<(x5_1.length:Int):=of_decide_eq_true asm
     obtain ⟨ad130,e130,hx130_0⟩:=Kd.at_int (Kd.R_reads' HO_5.out).2.2 x8_2 p130 q130
     obtain rfl:ad126=ad130:=(by injection e130)
     replace p130:=eq_true p130
     replace q130:=eq_true q130
     have p27:0≤((ji17):Int):=of_decide_eq_true asm
     have q27:((ji17):Int)<((x7_2.length:Int):Int):=of_decide_eq_true asm
     obtain ⟨hx27_0,hf27_0⟩:=Kd.R_celln 0 HO_7.out ((ji17):Int) p27 q27
     replace p27:=eq_true p27
     replace q27:=eq_true q27
     obtain ⟨hy34_,hz34_⟩:=Kd.R_celln 0 HO_7.out ((ji17):Int) (of_decide_eq_true asm) (of_decide_eq_true asm)
     have HP34:=Kd.R_putg HO_7.out ((ji17):Int) (wrap64 ((rd x5_1 x8_2)+1))
     try go_wp2_with (first|((with_reducible refine gate_store (t:=3) (p:=60) rfl ?_);refine store_event (t:=3) (p:=60) (v:=?vo_w35) (w1:=(w33.setCell ⟨go22,((ji17):Int).toNat,none⟩ (.int .i64 (wrap64 ((rd x5_1 x8_2)+1))))) ?hg ?ho ?hn ?hr ?_;(case ho=>rfl);(case hg=>rfl);(case hn=>rfl);(case hr=>first|(go_simp;done)|(go_simp;rfl));intro w35 hw;have hg:w33.grownBy w35 (some go22):=(by rw [hw];exact HP34.2);have hp_:Kd.R (Kd.int .i64) 3 w35 w.heap.size (fun k_=>some k_≠(.slice (some ad126) x5_1.length co30:Value).ownBlock) (.slice (some ⟨go22,0,none⟩) x7_2.length co29) y131:=(by rw [hw,Ny131.out];exact HP34.1);clear HP34;have n0_:=Aside0.mk (Kd.R_after (v:=(.slice (some ⟨go22,0,none⟩) x7_2.length co29)) (v1:=(.slice (some ⟨go22,0,none⟩) x7_2.length co29)) (ok:=(fun _=>True)) (by (with_reducible repeat (first|apply Kd.R_alloc|apply Kd.R_drewN|apply Kd.R_drew));exact Kd.R_mono HO_5.out (fun _ hk=>⟨trivial,hk⟩)) hg (.inl rfl));have n1_:=Aside0.mk (hp_);have n2_:=Aside0.mk ((by rw [hw];exact below_set (HB.out) GB22.out:Below w.heap.size w w35));clear HO_5;clear HO_7;clear HB;have HO_5:=n0_;have HO_7:=n1_;have HB:=n2_;clear n0_ n1_ n2_;clear hg hw hp_))
     go_roundg k2
     case measure=>have:=HK1.out;have:=HK2.out;omega
     case rel=>exact ⟨(y131),(ji17),(by first|rfl|(simp;done)|(simp only [← hji17]<;>(first|rfl|simp))|(simp [*];done)),H',⟨by have:=HK1.out;have:=HK2.out;omega⟩,⟨by (with_reducible repeat (first|apply Kd.R_alloc|apply Kd.R_drewN|apply Kd.R_drew));exact Kd.R_mono HO_5.out (fun _ hk=>hk.2)⟩,⟨by (with_reducible repeat (first|apply Kd.R_alloc|apply Kd.R_drewN|apply Kd.R_drew));exact HO_7.out⟩,⟨by repeat (first|(with_reducible first|exact HB.out|apply below_alloc|apply pw_below_drewN|apply below_drew1)|exact HB.out)⟩⟩
end Go.Proofs.Ytnmphfelebkaiaa.Pr
-- shrunk
/-
The document's Common is the length of a longest common subsequence; the law DiffLeast answers true: the plain part.
-/
namespace Go.Proofs.Ytnmphfelebkaiaa.Pr
open Go.RowKit Go.Proofs.YtnmphfelebkaiaaW.PrintWords Go.Proofs.YtnmphfelebkaiaaW.PrintLast Go.Proofs.YtnmphfelebkaiaaW.PrintMore
def rowF (n:Nat) (f:Nat→Int):List Int:=(List.range n).map f
theorem rowF_len (n:Nat) (f:Nat→Int):(rowF n f).length=n:=by simp [rowF]
theorem rowF_rd {n:Nat} {f:Nat→Int} {j:Nat} (h:j<n):rd (rowF n f) (j:Int)=f j:=by
 rw [rd,Int.toNat_natCast,rowF,List.getD_eq_getElem?_getD,List.getElem?_map,List.getElem?_range h]
 rfl
theorem rowF_set {n:Nat} {f:Nat→Int} {j:Nat} {v:Int}:(rowF n f).set j v=rowF n (fun i=>if i=j then v else f i):=by
 apply List.ext_getElem?
 intro i
 rw [rowF,rowF,List.getElem?_set]
 by_cases h:j=i
 ·subst h
  by_cases hn:j<n
  ·simp [hn]
  simp [hn]
 rw [if_neg h]
 by_cases hn:i<n
 ·simp [hn,Ne.symm h]
 simp [hn]
theorem rowF_congr {n:Nat} {f g:Nat→Int} (h:∀ j,j<n→f j=g j):rowF n f=rowF n g:=List.map_congr_left fun j hj=>h j (List.mem_range.1 hj)
theorem replicate_rowF (n:Nat):List.replicate n (0:Int)=rowF n (fun _=>0):=by
 apply List.ext_getElem?
 intro i
 by_cases h:i<n<;>simp [rowF,h]
def rowAt (x y:List ByteArray) (i:Nat):List Int:=rowF (y.length+1) (fun j=>(lcsLen (x.take i) (y.take j):Int))
def rowTo (x y:List ByteArray) (i k:Nat):List Int:=rowF (y.length+1) (fun j=>if j≤k then (lcsLen (x.take (i+1)) (y.take j):Int) else 0)
theorem lcs_take (x y:List ByteArray) (i k:Nat) (hi:i<x.length) (hk:k<y.length) :
  lcsLen (x.take (i+1)) (y.take (k+1))=if x[i]=y[k] then lcsLen (x.take i) (y.take k)+1 else max (lcsLen (x.take i) (y.take (k+1))) (lcsLen (x.take (i+1)) (y.take k)):=by
 rw [List.take_succ_eq_append_getElem hi,List.take_succ_eq_append_getElem hk,lcs_snoc]
theorem lcs_take_le (x y:List ByteArray) (i k:Nat):lcsLen (x.take i) (y.take k)≤x.length:=Nat.le_trans (lcs_le _ _).1 (by rw [List.length_take];omega)
theorem Common_l1 (x y:List ByteArray) (hx:x.length≤1099511627776) (hy:y.length≤1099511627776) (i:Nat) (hi:i<x.length) (r:Int)
  (rest:Ev (fun n=>r04_Common.l0 n x y (rowAt x y (i+1)) ((i+1:Nat):Int)) r):∀ (d k:Nat),y.length - k=d→k≤y.length →
  Ev (fun n=>r04_Common.l1 n x y (rowAt x y i) (i:Int) (rowTo x y i k) (k:Int)) r:=by
 intro d
 induction d with
 | zero =>
  intro k hd hk
  refine Ev.step (fun _=>r04_Common.l1.eq_2 ..) ?_
  have e:rowTo x y i k=rowAt x y (i+1):=rowF_congr fun j hj=>by rw [if_pos (by omega)]
  simp only [if_neg (show ¬ (k:Int)<(y.length:Int) by omega),e,w_succ hi (show x.length≤4611686018427387904 by omega)]
  exact rest
 | succ d ih =>
  intro k hd hk
  refine Ev.step (fun _=>r04_Common.l1.eq_2 ..) ?_
  have hk':k<y.length:=by omega
  have l1:(rowTo x y i k).length=y.length+1:=rowF_len _ _
  have l2:(rowAt x y i).length=y.length+1:=rowF_len _ _
  have r1:rd (rowTo x y i k) (k:Int)=(lcsLen (x.take (i+1)) (y.take k):Int):=by rw [rowTo,rowF_rd (by omega),if_pos (Nat.le_refl _)]
  have r2:rd (rowAt x y i) ((k+1:Nat):Int)=(lcsLen (x.take i) (y.take (k+1)):Int):=by rw [rowAt,rowF_rd (by omega)]
  have r3:rd (rowAt x y i) (k:Int)=(lcsLen (x.take i) (y.take k):Int):=by rw [rowAt,rowF_rd (by omega)]
  have ht:=lcs_take x y i k hi hk'
  have hle:=lcs_take_le x y i k
  have hw:wrap64 ((lcsLen (x.take i) (y.take k):Int)+1)=(lcsLen (x.take i) (y.take k):Int)+1:=w_in (by omega) (by omega)
  simp only [if_pos (show (k:Int)<(y.length:Int) by omega),if_pos (show 0≤(k:Int) by omega),w_succ hk' (show y.length≤4611686018427387904 by omega),l1,l2,
   if_pos (show (k:Int)<((y.length+1:Nat):Int) by omega),if_pos (show 0≤((k+1:Nat):Int) by omega),if_pos (show ((k+1:Nat):Int)<((y.length+1:Nat):Int) by omega),Option.bind_some,
   if_pos (show 0≤(i:Int) by omega),if_pos (show (i:Int)<(x.length:Int) by omega),rdS_at hi,rdS_at hk',toList_iff,r1,r2,r3,hw,Int.toNat_natCast]
  have h:=ih (k+1) (by omega) (by omega)
  by_cases he:x[i]=y[k]
  ·simp only [if_pos he]
   rw [if_pos he] at ht
   have e:((rowTo x y i k).set (k+1) (mx (lcsLen (x.take (i+1)) (y.take k):Int) (lcsLen (x.take i) (y.take (k+1)):Int))).set (k+1) ((lcsLen (x.take i) (y.take k):Int)+1)=rowTo x y i (k+1):=by
    rw [List.set_set,rowTo,rowF_set]
    refine rowF_congr fun j hj=>?_
    by_cases hj1:j=k+1
    ·rw [if_pos hj1,if_pos (by omega),hj1,ht];push_cast;rfl
    rw [if_neg hj1]
    by_cases hj2:j≤k
    ·rw [if_pos hj2,if_pos (by omega)]
    rw [if_neg hj2,if_neg (by omega)]
   rw [e]
   exact h
  simp only [if_neg he]
  rw [if_neg he] at ht
  have e:(rowTo x y i k).set (k+1) (mx (lcsLen (x.take (i+1)) (y.take k):Int) (lcsLen (x.take i) (y.take (k+1)):Int))=rowTo x y i (k+1):=by
   rw [rowTo,rowF_set]
   refine rowF_congr fun j hj=>?_
   by_cases hj1:j=k+1
   ·rw [if_pos hj1,if_pos (by omega),hj1,ht]
    unfold mx
    omega
   rw [if_neg hj1]
   by_cases hj2:j≤k
   ·rw [if_pos hj2,if_pos (by omega)]
   rw [if_neg hj2,if_neg (by omega)]
  rw [e]
  exact h
theorem rowTo_zero (x y:List ByteArray) (i:Nat):List.replicate (y.length+1) (0:Int)=rowTo x y i 0:=by
 rw [replicate_rowF,rowTo]
 refine rowF_congr fun j hj=>?_
 by_cases h:j≤0
 ·rw [if_pos h,show j=0 by omega,List.take_zero,lcs_nil];rfl
 rw [if_neg h]
theorem Common_l0 (x y:List ByteArray) (hx:x.length≤1099511627776) (hy:y.length≤1099511627776):∀ (d i:Nat),x.length - i=d→i≤x.length →
  Ev (fun n=>r04_Common.l0 n x y (rowAt x y i) (i:Int)) (lcsLen x y:Int):=by
 have hw:wrap64 ((y.length:Int)+1)=((y.length+1:Nat):Int):=by rw [w_in (by omega) (by omega)];rfl
 intro d
 induction d with
 | zero =>
  intro i hd hi
  refine Ev.step (fun _=>r04_Common.l0.eq_2 ..) ?_
  have l2:(rowAt x y i).length=y.length+1:=rowF_len _ _
  simp only [if_neg (show ¬ (i:Int)<(x.length:Int) by omega),if_pos (show 0≤(y.length:Int) by omega),l2,if_pos (show (y.length:Int)<((y.length+1:Nat):Int) by omega)]
  rw [rowAt,rowF_rd (by omega),List.take_of_length_le (by omega),List.take_of_length_le (by omega)]
  exact Ev.now _
 | succ d ih =>
  intro i hd hi
  refine Ev.step (fun _=>r04_Common.l0.eq_2 ..) ?_
  simp only [if_pos (show (i:Int)<(x.length:Int) by omega),hw,if_pos (show 0≤((y.length+1:Nat):Int) by omega),Int.toNat_natCast,if_pos (show y.length+1≤35184372088832 by omega)]
  rw [rowTo_zero x y i]
  exact Common_l1 x y hx hy i (by omega) _ (ih (i+1) (by omega) (by omega)) _ 0 rfl (by omega)
theorem Common_ev (x y:List ByteArray) (hx:x.length≤1099511627776) (hy:y.length≤1099511627776):Ev (fun n=>r04_Common.f n x y) (lcsLen x y:Int):=by
 have hw:wrap64 ((y.length:Int)+1)=((y.length+1:Nat):Int):=by rw [w_in (by omega) (by omega)];rfl
 unfold r04_Common.f
 simp only [hw,if_pos (show 0≤((y.length+1:Nat):Int) by omega),Int.toNat_natCast,if_pos (show y.length+1≤35184372088832 by omega)]
 have e:List.replicate (y.length+1) (0:Int)=rowAt x y 0:=by
  rw [replicate_rowF,rowAt]
  exact rowF_congr fun j hj=>by rw [List.take_zero,nil_lcs];rfl
 rw [e]
 exact Common_l0 x y hx hy _ 0 rfl (by omega)
end Go.Proofs.Ytnmphfelebkaiaa.Pr
-- shrunk
