-- written by a program of this session's (a turned copy of the kit's printer); Lean checks it
import Derived.Test.YtoaijganmfijmaaK0
set_option linter.unusedVariables false
set_option linter.unusedSimpArgs false
namespace Go.Proofs.Ytoaijganmfijmaa.Pr
open Go.RowKit Go.Proofs.YtoaijganmfijmaaW.PrintWords Go.Proofs.YtoaijganmfijmaaW.PrintLast Go.Proofs.YtoaijganmfijmaaW.PrintMore
attribute [local go_sem] max2_int min2_int max_two min_two max_three min_three max_four min_four   -- for this text's walks alone

mutual
def r05_Turn.l0:Nat→Int→Int→Int→Int→Int→List ByteArray→Int→Int→Int→Int→List ByteArray→Option (Int × Int × Int × Int × List ByteArray)
 | 0,_,_,_,_,_,_,_,_,_,_,_=>none
 | k+1,x4,x327000,x327001,x327002,x327003,x327004,x329000,x329001,x329002,x329003,x329004=>if x4<(x327004.length:Int) then (r05_Turn.l1 k x4 x4 x327000 x327001 x327002 x327003 x327004 x329000 x329001 x329002 x329003 x329004) else (some (x329000,x329001,x329002,x329003,x329004))
def r05_Turn.j2:Nat→Int→Int→Int→Int→Int→Int→List ByteArray→Int→Int→Int→Int→List ByteArray→Option (Int × Int × Int × Int × List ByteArray)
 | 0,_,_,_,_,_,_,_,_,_,_,_,_=>none
 | k+1,x4,x5,x327000,x327001,x327002,x327003,x327004,x329000,x329001,x329002,x329003,x329004=>r05_Turn.l2 k x4 x5 x4 x327000 x327001 x327002 x327003 x327004 x329000 x329001 x329002 x329003 x329004
def r05_Turn.l2:Nat→Int→Int→Int→Int→Int→Int→Int→List ByteArray→Int→Int→Int→Int→List ByteArray→Option (Int × Int × Int × Int × List ByteArray)
 | 0,_,_,_,_,_,_,_,_,_,_,_,_,_=>none
 | k+1,x4,x5,x6,x327000,x327001,x327002,x327003,x327004,x329000,x329001,x329002,x329003,x329004=>if x6<x5 then (if 0≤x6 then (if x6<(x327004.length:Int) then (if 0<((rdOf ByteArray.empty x327004 x6).size:Int) then (if (bt (rdOf ByteArray.empty x327004 x6) 0)=43 then (if 1≤((rdOf ByteArray.empty x327004 x6).size:Int) then (if 1+((rdOf ByteArray.empty x327004 x6).extract 1 (rdOf ByteArray.empty x327004 x6).size).size≤9223372036854775807 then (if x329004.length<8796093022208 then (r05_Turn.l2 k x4 x5 (wrap64 (x6+1)) x327000 x327001 x327002 x327003 x327004 x329000 x329001 x329002 x329003 (x329004++[(⟨#[45]⟩:ByteArray)++((rdOf ByteArray.empty x327004 x6).extract 1 (rdOf ByteArray.empty x327004 x6).size)])) else (none)) else (none)) else (none)) else (r05_Turn.l2 k x4 x5 (wrap64 (x6+1)) x327000 x327001 x327002 x327003 x327004 x329000 x329001 x329002 x329003 x329004)) else (none)) else (none)) else (none)) else (r05_Turn.l3 k x5 x4 x327000 x327001 x327002 x327003 x327004 x329000 x329001 x329002 x329003 x329004)
def r05_Turn.l3:Nat→Int→Int→Int→Int→Int→Int→List ByteArray→Int→Int→Int→Int→List ByteArray→Option (Int × Int × Int × Int × List ByteArray)
 | 0,_,_,_,_,_,_,_,_,_,_,_,_=>none
 | k+1,x5,x7,x327000,x327001,x327002,x327003,x327004,x329000,x329001,x329002,x329003,x329004=>if x7<x5 then (if 0≤x7 then (if x7<(x327004.length:Int) then (if 0<((rdOf ByteArray.empty x327004 x7).size:Int) then (if (bt (rdOf ByteArray.empty x327004 x7) 0)=45 then (if 1≤((rdOf ByteArray.empty x327004 x7).size:Int) then (if 1+((rdOf ByteArray.empty x327004 x7).extract 1 (rdOf ByteArray.empty x327004 x7).size).size≤9223372036854775807 then (if x329004.length<8796093022208 then (r05_Turn.l3 k x5 (wrap64 (x7+1)) x327000 x327001 x327002 x327003 x327004 x329000 x329001 x329002 x329003 (x329004++[(⟨#[43]⟩:ByteArray)++((rdOf ByteArray.empty x327004 x7).extract 1 (rdOf ByteArray.empty x327004 x7).size)])) else (none)) else (none)) else (none)) else (r05_Turn.l3 k x5 (wrap64 (x7+1)) x327000 x327001 x327002 x327003 x327004 x329000 x329001 x329002 x329003 x329004)) else (none)) else (none)) else (none)) else (if x5<(x327004.length:Int) then (if 0≤x5 then (if x329004.length<8796093022208 then (r05_Turn.l0 k (wrap64 (x5+1)) x327000 x327001 x327002 x327003 x327004 x329000 x329001 x329002 x329003 (x329004++[rdOf ByteArray.empty x327004 x5])) else (none)) else (none)) else (r05_Turn.l0 k (wrap64 (x5+1)) x327000 x327001 x327002 x327003 x327004 x329000 x329001 x329002 x329003 x329004))
def r05_Turn.l1:Nat→Int→Int→Int→Int→Int→Int→List ByteArray→Int→Int→Int→Int→List ByteArray→Option (Int × Int × Int × Int × List ByteArray)
 | 0,_,_,_,_,_,_,_,_,_,_,_,_=>none
 | k+1,x4,x5,x327000,x327001,x327002,x327003,x327004,x329000,x329001,x329002,x329003,x329004=>if x5<(x327004.length:Int) then (if 0≤x5 then (if 0<((rdOf ByteArray.empty x327004 x5).size:Int) then (if (bt (rdOf ByteArray.empty x327004 x5) 0)=32 then (r05_Turn.j2 k x4 x5 x327000 x327001 x327002 x327003 x327004 x329000 x329001 x329002 x329003 x329004) else (r05_Turn.l1 k x4 (wrap64 (x5+1)) x327000 x327001 x327002 x327003 x327004 x329000 x329001 x329002 x329003 x329004)) else (none)) else (none)) else (r05_Turn.j2 k x4 x5 x327000 x327001 x327002 x327003 x327004 x329000 x329001 x329002 x329003 x329004)
end
def r05_Turn.f (k:Nat) (a0_0:Int) (a0_1:Int) (a0_2:Int) (a0_3:Int) (l0_4:List ByteArray):Option (Int × Int × Int × Int × List ByteArray):=r05_Turn.l0 k 0 a0_0 a0_1 a0_2 a0_3 l0_4 a0_2 a0_3 a0_0 a0_1 ([]:List ByteArray)
theorem r05_Turn.mono_l:∀ k,(∀ y0 y1 y2 y3 y4 y5 y6 y7 y8 y9 y10,LeO (r05_Turn.l0 k y0 y1 y2 y3 y4 y5 y6 y7 y8 y9 y10) (r05_Turn.l0 (k+1) y0 y1 y2 y3 y4 y5 y6 y7 y8 y9 y10))∧(∀ y0 y1 y2 y3 y4 y5 y6 y7 y8 y9 y10 y11,LeO (r05_Turn.j2 k y0 y1 y2 y3 y4 y5 y6 y7 y8 y9 y10 y11) (r05_Turn.j2 (k+1) y0 y1 y2 y3 y4 y5 y6 y7 y8 y9 y10 y11))∧(∀ y0 y1 y2 y3 y4 y5 y6 y7 y8 y9 y10 y11 y12,LeO (r05_Turn.l2 k y0 y1 y2 y3 y4 y5 y6 y7 y8 y9 y10 y11 y12) (r05_Turn.l2 (k+1) y0 y1 y2 y3 y4 y5 y6 y7 y8 y9 y10 y11 y12))∧(∀ y0 y1 y2 y3 y4 y5 y6 y7 y8 y9 y10 y11,LeO (r05_Turn.l3 k y0 y1 y2 y3 y4 y5 y6 y7 y8 y9 y10 y11) (r05_Turn.l3 (k+1) y0 y1 y2 y3 y4 y5 y6 y7 y8 y9 y10 y11))∧(∀ y0 y1 y2 y3 y4 y5 y6 y7 y8 y9 y10 y11,LeO (r05_Turn.l1 k y0 y1 y2 y3 y4 y5 y6 y7 y8 y9 y10 y11) (r05_Turn.l1 (k+1) y0 y1 y2 y3 y4 y5 y6 y7 y8 y9 y10 y11))
 | 0=>⟨fun _ _ _ _ _ _ _ _ _ _ _ r h=>by simp [r05_Turn.l0] at h,fun _ _ _ _ _ _ _ _ _ _ _ _ r h=>by simp [r05_Turn.j2] at h,fun _ _ _ _ _ _ _ _ _ _ _ _ _ r h=>by simp [r05_Turn.l2] at h,fun _ _ _ _ _ _ _ _ _ _ _ _ r h=>by simp [r05_Turn.l3] at h,fun _ _ _ _ _ _ _ _ _ _ _ _ r h=>by simp [r05_Turn.l1] at h⟩
 | k+1=>by
  obtain ⟨ih0,ih1,ih2,ih3,ih4⟩:=r05_Turn.mono_l k
  refine ⟨?_,?_,?_,?_,?_⟩
  ·intro y0 y1 y2 y3 y4 y5 y6 y7 y8 y9 y10
   unfold r05_Turn.l0
   repeat' first
   | (with_reducible exact ih0 _ _ _ _ _ _ _ _ _ _ _)
   | (with_reducible exact ih1 _ _ _ _ _ _ _ _ _ _ _ _)
   | (with_reducible exact ih2 _ _ _ _ _ _ _ _ _ _ _ _ _)
   | (with_reducible exact ih3 _ _ _ _ _ _ _ _ _ _ _ _)
   | (with_reducible exact ih4 _ _ _ _ _ _ _ _ _ _ _ _)
   | (with_reducible exact LeO.refl _)
   | (with_reducible exact LeO.none _)
   | (with_reducible refine LeO.ite ?_ ?_)
   | (with_reducible refine LeO.bind ?_ (fun _=>?_))
   | exact ih0 _ _ _ _ _ _ _ _ _ _ _
   | exact ih1 _ _ _ _ _ _ _ _ _ _ _ _
   | exact ih2 _ _ _ _ _ _ _ _ _ _ _ _ _
   | exact ih3 _ _ _ _ _ _ _ _ _ _ _ _
   | exact ih4 _ _ _ _ _ _ _ _ _ _ _ _
   | exact LeO.none _
   | refine LeO.ite ?_ ?_
   | refine LeO.bind ?_ (fun _=>?_)
  ·intro y0 y1 y2 y3 y4 y5 y6 y7 y8 y9 y10 y11
   unfold r05_Turn.j2
   repeat' first
   | (with_reducible exact ih0 _ _ _ _ _ _ _ _ _ _ _)
   | (with_reducible exact ih1 _ _ _ _ _ _ _ _ _ _ _ _)
   | (with_reducible exact ih2 _ _ _ _ _ _ _ _ _ _ _ _ _)
   | (with_reducible exact ih3 _ _ _ _ _ _ _ _ _ _ _ _)
   | (with_reducible exact ih4 _ _ _ _ _ _ _ _ _ _ _ _)
   | (with_reducible exact LeO.refl _)
   | (with_reducible exact LeO.none _)
   | (with_reducible refine LeO.ite ?_ ?_)
   | (with_reducible refine LeO.bind ?_ (fun _=>?_))
   | exact ih0 _ _ _ _ _ _ _ _ _ _ _
   | exact ih1 _ _ _ _ _ _ _ _ _ _ _ _
   | exact ih2 _ _ _ _ _ _ _ _ _ _ _ _ _
   | exact ih3 _ _ _ _ _ _ _ _ _ _ _ _
   | exact ih4 _ _ _ _ _ _ _ _ _ _ _ _
   | exact LeO.none _
   | refine LeO.ite ?_ ?_
   | refine LeO.bind ?_ (fun _=>?_)
  ·intro y0 y1 y2 y3 y4 y5 y6 y7 y8 y9 y10 y11 y12
   unfold r05_Turn.l2
   repeat' first
   | (with_reducible exact ih0 _ _ _ _ _ _ _ _ _ _ _)
   | (with_reducible exact ih1 _ _ _ _ _ _ _ _ _ _ _ _)
   | (with_reducible exact ih2 _ _ _ _ _ _ _ _ _ _ _ _ _)
   | (with_reducible exact ih3 _ _ _ _ _ _ _ _ _ _ _ _)
   | (with_reducible exact ih4 _ _ _ _ _ _ _ _ _ _ _ _)
   | (with_reducible exact LeO.refl _)
   | (with_reducible exact LeO.none _)
   | (with_reducible refine LeO.ite ?_ ?_)
   | (with_reducible refine LeO.bind ?_ (fun _=>?_))
   | exact ih0 _ _ _ _ _ _ _ _ _ _ _
   | exact ih1 _ _ _ _ _ _ _ _ _ _ _ _
   | exact ih2 _ _ _ _ _ _ _ _ _ _ _ _ _
   | exact ih3 _ _ _ _ _ _ _ _ _ _ _ _
   | exact ih4 _ _ _ _ _ _ _ _ _ _ _ _
   | exact LeO.none _
   | refine LeO.ite ?_ ?_
   | refine LeO.bind ?_ (fun _=>?_)
  ·intro y0 y1 y2 y3 y4 y5 y6 y7 y8 y9 y10 y11
   unfold r05_Turn.l3
   repeat' first
   | (with_reducible exact ih0 _ _ _ _ _ _ _ _ _ _ _)
   | (with_reducible exact ih1 _ _ _ _ _ _ _ _ _ _ _ _)
   | (with_reducible exact ih2 _ _ _ _ _ _ _ _ _ _ _ _ _)
   | (with_reducible exact ih3 _ _ _ _ _ _ _ _ _ _ _ _)
   | (with_reducible exact ih4 _ _ _ _ _ _ _ _ _ _ _ _)
   | (with_reducible exact LeO.refl _)
   | (with_reducible exact LeO.none _)
   | (with_reducible refine LeO.ite ?_ ?_)
   | (with_reducible refine LeO.bind ?_ (fun _=>?_))
   | exact ih0 _ _ _ _ _ _ _ _ _ _ _
   | exact ih1 _ _ _ _ _ _ _ _ _ _ _ _
   | exact ih2 _ _ _ _ _ _ _ _ _ _ _ _ _
   | exact ih3 _ _ _ _ _ _ _ _ _ _ _ _
   | exact ih4 _ _ _ _ _ _ _ _ _ _ _ _
   | exact LeO.none _
   | refine LeO.ite ?_ ?_
   | refine LeO.bind ?_ (fun _=>?_)
  ·intro y0 y1 y2 y3 y4 y5 y6 y7 y8 y9 y10 y11
   unfold r05_Turn.l1
   repeat' first
   | (with_reducible exact ih0 _ _ _ _ _ _ _ _ _ _ _)
   | (with_reducible exact ih1 _ _ _ _ _ _ _ _ _ _ _ _)
   | (with_reducible exact ih2 _ _ _ _ _ _ _ _ _ _ _ _ _)
   | (with_reducible exact ih3 _ _ _ _ _ _ _ _ _ _ _ _)
   | (with_reducible exact ih4 _ _ _ _ _ _ _ _ _ _ _ _)
   | (with_reducible exact LeO.refl _)
   | (with_reducible exact LeO.none _)
   | (with_reducible refine LeO.ite ?_ ?_)
   | (with_reducible refine LeO.bind ?_ (fun _=>?_))
   | exact ih0 _ _ _ _ _ _ _ _ _ _ _
   | exact ih1 _ _ _ _ _ _ _ _ _ _ _ _
   | exact ih2 _ _ _ _ _ _ _ _ _ _ _ _ _
   | exact ih3 _ _ _ _ _ _ _ _ _ _ _ _
   | exact ih4 _ _ _ _ _ _ _ _ _ _ _ _
   | exact LeO.none _
   | refine LeO.ite ?_ ?_
   | refine LeO.bind ?_ (fun _=>?_)
theorem r05_Turn.mono:∀ a0 a1 a2 a3 a4 k,LeO (r05_Turn.f k a0 a1 a2 a3 a4) (r05_Turn.f (k+1) a0 a1 a2 a3 a4):=by
 intro a0 a1 a2 a3 a4 k
 obtain ⟨ih0,ih1,ih2,ih3,ih4⟩:=r05_Turn.mono_l k
 unfold r05_Turn.f
 repeat' first
   | (with_reducible exact ih0 _ _ _ _ _ _ _ _ _ _ _)
   | (with_reducible exact ih1 _ _ _ _ _ _ _ _ _ _ _ _)
   | (with_reducible exact ih2 _ _ _ _ _ _ _ _ _ _ _ _ _)
   | (with_reducible exact ih3 _ _ _ _ _ _ _ _ _ _ _ _)
   | (with_reducible exact ih4 _ _ _ _ _ _ _ _ _ _ _ _)
   | (with_reducible exact LeO.refl _)
   | (with_reducible exact LeO.none _)
   | (with_reducible refine LeO.ite ?_ ?_)
   | (with_reducible refine LeO.bind ?_ (fun _=>?_))
   | exact ih0 _ _ _ _ _ _ _ _ _ _ _
   | exact ih1 _ _ _ _ _ _ _ _ _ _ _ _
   | exact ih2 _ _ _ _ _ _ _ _ _ _ _ _ _
   | exact ih3 _ _ _ _ _ _ _ _ _ _ _ _
   | exact ih4 _ _ _ _ _ _ _ _ _ _ _ _
   | exact LeO.none _
   | refine LeO.ite ?_ ?_
   | refine LeO.bind ?_ (fun _=>?_)
def r05_Turn.T11:Bool × List (List Nat × List Nat):=(true,[([],[]),([0],[0]),([],[]),([2],[2]),([],[]),([3,4],[3,4]),([5],[5]),([6],[6]),([7],[7]),([8],[8]),([1,9],[1,9]),([0,1,2,3,4,5,6,7,8,9,10],[]),([11,10,10,0,1,2,3,4,5,6,7,8,9,10],[10,11])])
def r05_Turn.B11:List Nat:=[0,1,0,4,0,28,60,124,252,508,1023,2047,4095]
theorem r05_Turn.tab11:rtab .any (opsOf Try.f28 11)=r05_Turn.T11:=by kernel_rfl
theorem r05_Turn.bits11:waitsOk r05_Turn.T11.2 r05_Turn.B11=true:=by kernel_rfl
def r05_Turn.T16:Bool × List (List Nat × List Nat):=(true,[([],[]),([0],[0]),([],[]),([2],[2]),([],[]),([3,4],[3,4]),([5],[5]),([6],[6]),([7],[7]),([8],[8]),([1,9],[1,9]),([0,1,2,3,4,5,6,7,8,9,10],[]),([11,10,10,0,1,2,3,4,5,6,7,8,9,10],[10,11])])
def r05_Turn.B16:List Nat:=[0,1,0,4,0,28,60,124,252,508,1023,2047,4095]
theorem r05_Turn.tab16:rtab .any (opsOf Try.f28 16)=r05_Turn.T16:=by kernel_rfl
theorem r05_Turn.bits16:waitsOk r05_Turn.T16.2 r05_Turn.B16=true:=by kernel_rfl
def r05_Turn.T18:Bool × List (List Nat × List Nat):=(true,[([],[]),([0],[0]),([],[]),([2],[2]),([],[]),([3,4],[3,4]),([5],[5]),([6],[6]),([1,7],[1,7]),([0,1,2,3,4,5,6,7,8],[]),([9,8,8,0,1,2,3,4,5,6,7,8],[8,9])])
def r05_Turn.B18:List Nat:=[0,1,0,4,0,28,60,124,255,511,1023]
theorem r05_Turn.tab18:rtab .any (opsOf Try.f28 18)=r05_Turn.T18:=by kernel_rfl
theorem r05_Turn.bits18:waitsOk r05_Turn.T18.2 r05_Turn.B18=true:=by kernel_rfl
set_option maxHeartbeats 8000000 in
set_option maxRecDepth 100000 in
theorem r05_Turn.calls (k:Nat) (a0_0:Int) (a0_1:Int) (a0_2:Int) (a0_3:Int) (A0_4:Option Addr) (c0_4:Nat) (l0_4:List ByteArray) (r1:Int) (r2:Int) (r3:Int) (r4:Int) (r5:List ByteArray) (w:World) (hr0_4:Kd.C Kd.string w A0_4 l0_4.length l0_4) (hc0_4:l0_4.length≤c0_4) (h:r05_Turn.f k a0_0 a0_1 a0_2 a0_3 l0_4=some (r1,r2,r3,r4,r5)) :
  Calls Try.prog 28 #[.agg #[.int .i64 a0_0,.int .i64 a0_1,.int .i64 a0_2,.int .i64 a0_3,.slice A0_4 l0_4.length c0_4]] w fun e w'=>∃ v4_:Value,e=.returned (.agg #[.int .i64 r1,.int .i64 r2,.int .i64 r3,.int .i64 r4,v4_])∧Kd.R Kd.string 9 w' w.heap.size (fun _=>True) v4_ r5∧Below w.heap.size w w':=by
 have hu41:=Try.underlying41
 have HR0_4:=Aside0.mk hr0_4
 have HC0_4:=Aside0.mk hc0_4
 clear hr0_4 hc0_4
 have HB:=Aside0.mk (Below.refl w.heap.size w)
 have H:(r05_Turn.l0 k 0 a0_0 a0_1 a0_2 a0_3 l0_4 a0_2 a0_3 a0_0 a0_1 ([]:List ByteArray))=some (r1,r2,r3,r4,r5):=h
 clear h
 have H':=Aside0.mk H
 clear H
 go_enter Try.func28,Try.ntmps28
 go_wp2_with (first|((with_reducible refine gate_dst (N:=1) rfl ?_);refine box_event ?hg (N:=1) ?hd (cs:=#[.int .i64 a0_0,.int .i64 a0_1,.int .i64 a0_2,.int .i64 a0_3,.slice A0_4 l0_4.length c0_4]) (t:=41) ?hr ?_;(case hd=>rfl);(case hg=>rfl);(case hr=>first|(go_simp;done)|(go_simp;rfl));intro gb326 hg w2 hbox hb;have n0_:=Aside0.mk (below_step bel hb);have n1_:=Aside0.mk (hbox);have n2_:=Aside0.mk ((szl:w.heap.size≤gb326));have n3_:=Aside0.mk ((szl:w.heap.size≤gb326));clear HB;have HB:=n0_;have BK326:=n1_;have GW326:=n2_;have GE326:=n3_;clear n0_ n1_ n2_ n3_;clear hb hbox hg)|((with_reducible refine gate_dst (N:=2) rfl ?_);refine box_event ?hg (N:=2) ?hd (cs:=#[.int .i64 0,.int .i64 0,.int .i64 0,.int .i64 0,.slice none 0 0]) (t:=41) ?hr ?_;(case hd=>rfl);(case hg=>rfl);(case hr=>first|(go_simp;done)|(go_simp;rfl));intro gb327 hg w3 hbox hb;have n0_:=Aside0.mk (blk_below (g:=gb326) (o:=.cells #[.int .i64 a0_0,.int .i64 a0_1,.int .i64 a0_2,.int .i64 a0_3,.slice A0_4 l0_4.length c0_4] 41 (0,0)) (by (with_reducible repeat (first|refine blk_drewN ?_ _|refine blk_drew ?_|refine blk_alloc ?_ _));exact BK326.out) hb);have n1_:=Aside0.mk (below_step bel hb);have n2_:=Aside0.mk (hbox);have n3_:=Aside0.mk ((szl:w.heap.size≤gb327));have n4_:=Aside0.mk ((szl:w.heap.size≤gb327));have n5_:=Aside0.mk ((by rw [hg];exact Nat.ne_of_lt (blk_lt (g:=gb326) (o:=.cells #[.int .i64 a0_0,.int .i64 a0_1,.int .i64 a0_2,.int .i64 a0_3,.slice A0_4 l0_4.length c0_4] 41 (0,0)) (by (with_reducible repeat (first|refine blk_drewN ?_ _|refine blk_drew ?_|refine blk_alloc ?_ _));exact BK326.out)):gb326≠gb327));have n6_:=Aside0.mk ((by rw [hg];exact Nat.ne_of_gt (blk_lt (g:=gb326) (o:=.cells #[.int .i64 a0_0,.int .i64 a0_1,.int .i64 a0_2,.int .i64 a0_3,.slice A0_4 l0_4.length c0_4] 41 (0,0)) (by (with_reducible repeat (first|refine blk_drewN ?_ _|refine blk_drew ?_|refine blk_alloc ?_ _));exact BK326.out)):gb327≠gb326));clear BK326;clear HB;have BK326:=n0_;have HB:=n1_;have BK327:=n2_;have GW327:=n3_;have GE327:=n4_;have NB326_327:=n5_;have NB327_326:=n6_;clear n0_ n1_ n2_ n3_ n4_ n5_ n6_;clear hb hbox hg;have hnb4:=NB326_327.out;have hnc4:=NB327_326.out;have hcz5_0:w3.cell? ⟨gb326,0,none⟩=some (.int .i64 a0_0):=(blk_cell BK326.out 0).trans rfl;have hcz5_1:w3.cell? ⟨gb326,1,none⟩=some (.int .i64 a0_1):=(blk_cell BK326.out 1).trans rfl;have hcz5_2:w3.cell? ⟨gb326,2,none⟩=some (.int .i64 a0_2):=(blk_cell BK326.out 2).trans rfl;have hcz5_3:w3.cell? ⟨gb326,3,none⟩=some (.int .i64 a0_3):=(blk_cell BK326.out 3).trans rfl;have hcz5_4:w3.cell? ⟨gb326,4,none⟩=some (.slice A0_4 l0_4.length c0_4):=(blk_cell BK326.out 4).trans rfl;have hfz5_0:=blk_frozen BK326.out 0;have hfz5_1:=blk_frozen BK326.out 1;have hfz5_2:=blk_frozen BK326.out 2;have hfz5_3:=blk_frozen BK326.out 3;have hfz5_4:=blk_frozen BK326.out 4)|((with_reducible refine gate_dst (N:=3) rfl ?_);refine box_event ?hg (N:=3) ?hd (cs:=#[.int .i64 0,.int .i64 0,.int .i64 0,.int .i64 0,.slice none 0 0]) (t:=41) ?hr ?_;(case hd=>rfl);(case hg=>rfl);(case hr=>first|(go_simp;done)|(go_simp;rfl));intro gb328 hg w6 hbox hb;have n0_:=Aside0.mk (blk_below (g:=gb326) (o:=.cells #[.int .i64 a0_0,.int .i64 a0_1,.int .i64 a0_2,.int .i64 a0_3,.slice A0_4 l0_4.length c0_4] 41 (0,0)) (by (with_reducible repeat (first|refine blk_drewN ?_ _|refine blk_drew ?_|refine blk_alloc ?_ _));exact BK326.out) hb);have n1_:=Aside0.mk (blk_below (g:=gb327) (o:=.cells #[.int .i64 0,.int .i64 0,.int .i64 0,.int .i64 0,.slice none 0 0] 41 (0,0)) (by (with_reducible repeat (first|refine blk_drewN ?_ _|refine blk_drew ?_|refine blk_alloc ?_ _));exact BK327.out) hb);have n2_:=Aside0.mk (below_step bel hb);have n3_:=Aside0.mk (hbox);have n4_:=Aside0.mk ((szl:w.heap.size≤gb328));have n5_:=Aside0.mk ((szl:w.heap.size≤gb328));have n6_:=Aside0.mk ((by rw [hg];exact Nat.ne_of_lt (blk_lt (g:=gb326) (o:=.cells #[.int .i64 a0_0,.int .i64 a0_1,.int .i64 a0_2,.int .i64 a0_3,.slice A0_4 l0_4.length c0_4] 41 (0,0)) (by (with_reducible repeat (first|refine blk_drewN ?_ _|refine blk_drew ?_|refine blk_alloc ?_ _));exact BK326.out)):gb326≠gb328));have n7_:=Aside0.mk ((by rw [hg];exact Nat.ne_of_gt (blk_lt (g:=gb326) (o:=.cells #[.int .i64 a0_0,.int .i64 a0_1,.int .i64 a0_2,.int .i64 a0_3,.slice A0_4 l0_4.length c0_4] 41 (0,0)) (by (with_reducible repeat (first|refine blk_drewN ?_ _|refine blk_drew ?_|refine blk_alloc ?_ _));exact BK326.out)):gb328≠gb326));have n8_:=Aside0.mk ((by rw [hg];exact Nat.ne_of_lt (blk_lt (g:=gb327) (o:=.cells #[.int .i64 0,.int .i64 0,.int .i64 0,.int .i64 0,.slice none 0 0] 41 (0,0)) (by (with_reducible repeat (first|refine blk_drewN ?_ _|refine blk_drew ?_|refine blk_alloc ?_ _));exact BK327.out)):gb327≠gb328));have n9_:=Aside0.mk ((by rw [hg];exact Nat.ne_of_gt (blk_lt (g:=gb327) (o:=.cells #[.int .i64 0,.int .i64 0,.int .i64 0,.int .i64 0,.slice none 0 0] 41 (0,0)) (by (with_reducible repeat (first|refine blk_drewN ?_ _|refine blk_drew ?_|refine blk_alloc ?_ _));exact BK327.out)):gb328≠gb327));clear BK326;clear BK327;clear HB;have BK326:=n0_;have BK327:=n1_;have HB:=n2_;have BK328:=n3_;have GW328:=n4_;have GE328:=n5_;have NB326_328:=n6_;have NB328_326:=n7_;have NB327_328:=n8_;have NB328_327:=n9_;clear n0_ n1_ n2_ n3_ n4_ n5_ n6_ n7_ n8_ n9_;clear hb hbox hg;have hnb7:=NB328_326.out;have hnc7:=NB326_328.out;have hnb8:=NB328_327.out;have hnc8:=NB327_328.out;have hcz9_0:w6.cell? ⟨gb328,0,none⟩=some (.int .i64 0):=(blk_cell BK328.out 0).trans rfl;have hcz9_1:w6.cell? ⟨gb328,1,none⟩=some (.int .i64 0):=(blk_cell BK328.out 1).trans rfl;have hcz9_2:w6.cell? ⟨gb328,2,none⟩=some (.int .i64 0):=(blk_cell BK328.out 2).trans rfl;have hcz9_3:w6.cell? ⟨gb328,3,none⟩=some (.int .i64 0):=(blk_cell BK328.out 3).trans rfl;have hcz9_4:w6.cell? ⟨gb328,4,none⟩=some (.slice none 0 0):=(blk_cell BK328.out 4).trans rfl;have hfz9_0:=blk_frozen BK328.out 0;have hfz9_1:=blk_frozen BK328.out 1;have hfz9_2:=blk_frozen BK328.out 2;have hfz9_3:=blk_frozen BK328.out 3;have hfz9_4:=blk_frozen BK328.out 4))
 go_loopg [4] k (fun kq v4 w'=>∃ (x4_1:Int) (x329004_1:List ByteArray) (u329004:Value),v4=.int .i64 x4_1∧Aside0 (r05_Turn.l0 kq x4_1 a0_0 a0_1 a0_2 a0_3 l0_4 a0_2 a0_3 a0_0 a0_1 x329004_1=some (r1,r2,r3,r4,r5))∧Aside0 (kq≤k)∧Aside0 (Kd.R Kd.string 9 w' w.heap.size (fun _=>True) u329004 x329004_1)∧Aside0 (w'.heap[gb326]?=some (.cells #[.int .i64 a0_0,.int .i64 a0_1,.int .i64 a0_2,.int .i64 a0_3,(.slice A0_4 l0_4.length c0_4)] 41 (0,0)))∧Aside0 (w'.heap[gb327]?=some (.cells #[.int .i64 0,.int .i64 0,.int .i64 0,.int .i64 0,(.slice none 0 0)] 41 (0,0)))∧Aside0 (w'.heap[gb328]?=some (.cells #[.int .i64 a0_2,.int .i64 a0_3,.int .i64 a0_0,.int .i64 a0_1,u329004] 41 (0,0)))∧Aside0 (Below w.heap.size w w'))
 case atStart=>exact ⟨(0),(([]:List ByteArray)),(.slice none 0 0),rx,H',⟨Nat.le_refl _⟩,⟨by first|exact Kd.R_nil _ _ _ _ _|exact Kd.N_nil _ _ _ _ _|exact Kd.V_nil _ _ _ _ _|exact Kd.Q_nil _ _ _ _ _|exact Kd.S_nil _ _ _ _ _⟩,⟨by (with_reducible repeat (first|refine blk_drewN ?_ _|refine blk_drew ?_|refine blk_alloc ?_ _));refine blk_far ?_ NB326_328.out _;(with_reducible repeat (first|refine blk_drewN ?_ _|refine blk_drew ?_|refine blk_alloc ?_ _));refine blk_far ?_ NB326_328.out _;(with_reducible repeat (first|refine blk_drewN ?_ _|refine blk_drew ?_|refine blk_alloc ?_ _));refine blk_far ?_ NB326_328.out _;(with_reducible repeat (first|refine blk_drewN ?_ _|refine blk_drew ?_|refine blk_alloc ?_ _));refine blk_far ?_ NB326_328.out _;(with_reducible repeat (first|refine blk_drewN ?_ _|refine blk_drew ?_|refine blk_alloc ?_ _));refine blk_far ?_ NB326_328.out _;(with_reducible repeat (first|refine blk_drewN ?_ _|refine blk_drew ?_|refine blk_alloc ?_ _));exact BK326.out⟩,⟨by (with_reducible repeat (first|refine blk_drewN ?_ _|refine blk_drew ?_|refine blk_alloc ?_ _));refine blk_far ?_ NB327_328.out _;(with_reducible repeat (first|refine blk_drewN ?_ _|refine blk_drew ?_|refine blk_alloc ?_ _));refine blk_far ?_ NB327_328.out _;(with_reducible repeat (first|refine blk_drewN ?_ _|refine blk_drew ?_|refine blk_alloc ?_ _));refine blk_far ?_ NB327_328.out _;(with_reducible repeat (first|refine blk_drewN ?_ _|refine blk_drew ?_|refine blk_alloc ?_ _));refine blk_far ?_ NB327_328.out _;(with_reducible repeat (first|refine blk_drewN ?_ _|refine blk_drew ?_|refine blk_alloc ?_ _));refine blk_far ?_ NB327_328.out _;(with_reducible repeat (first|refine blk_drewN ?_ _|refine blk_drew ?_|refine blk_alloc ?_ _));exact BK327.out⟩,⟨by (with_reducible repeat (first|refine blk_drewN ?_ _|refine blk_drew ?_|refine blk_alloc ?_ _));refine blk_put (cs:=#[.int .i64 a0_2,.int .i64 a0_3,.int .i64 a0_0,.int .i64 a0_1,.slice none 0 0]) ?_ 4 _ rfl;(with_reducible repeat (first|refine blk_drewN ?_ _|refine blk_drew ?_|refine blk_alloc ?_ _));refine blk_put (cs:=#[.int .i64 a0_2,.int .i64 a0_3,.int .i64 a0_0,.int .i64 0,.slice none 0 0]) ?_ 3 _ rfl;(with_reducible repeat (first|refine blk_drewN ?_ _|refine blk_drew ?_|refine blk_alloc ?_ _));refine blk_put (cs:=#[.int .i64 a0_2,.int .i64 a0_3,.int .i64 0,.int .i64 0,.slice none 0 0]) ?_ 2 _ rfl;(with_reducible repeat (first|refine blk_drewN ?_ _|refine blk_drew ?_|refine blk_alloc ?_ _));refine blk_put (cs:=#[.int .i64 a0_2,.int .i64 0,.int .i64 0,.int .i64 0,.slice none 0 0]) ?_ 1 _ rfl;(with_reducible repeat (first|refine blk_drewN ?_ _|refine blk_drew ?_|refine blk_alloc ?_ _));refine blk_put (cs:=#[.int .i64 0,.int .i64 0,.int .i64 0,.int .i64 0,.slice none 0 0]) ?_ 0 _ rfl;(with_reducible repeat (first|refine blk_drewN ?_ _|refine blk_drew ?_|refine blk_alloc ?_ _));exact BK328.out⟩,⟨by repeat (first|(with_reducible first|exact HB.out|apply below_alloc|apply pw_below_drewN|apply below_drew1|refine below_set ?_ GE326.out|refine below_set ?_ GE327.out|refine below_set ?_ GE328.out)|exact HB.out)⟩⟩
 case round =>
  clear H'
  try clear c2
  try clear p2
  try clear c4
  try clear c7
  try clear c8
  try clear hcz5_0
  try clear hcz5_1
  try clear hcz5_2
  try clear hcz5_3
  try clear hcz5_4
  try clear hcz9_0
  try clear hcz9_1
  try clear hcz9_2
  try clear hcz9_3
  try clear hcz9_4
  try clear hfz5_0
  try clear hfz5_1
  try clear hfz5_2
  try clear hfz5_3
  try clear hfz5_4
  try clear hfz9_0
  try clear hfz9_1
  try clear hfz9_2
  try clear hfz9_3
  try clear hfz9_4
  obtain ⟨x4_1,x329004_1,u329004,rfl,HA,HK1,HO_329004,BK326,BK327,BK328,HB⟩:=hrel
  cases gk with
  | zero=>exact absurd HA.out (by simp [r05_Turn.l0])
  | succ k1 =>
   have H:=HA.out
   clear HA
   simp only [r05_Turn.l0] at H
   by_cases c10:x4_1<(l0_4.length:Int)
   ·rw [if_pos c10] at H
    have c10b0:decide (x4_1<(l0_4.length:Int))=true:=decide_eq_true c10
    clear c10
    have HC11:=Aside0.mk H
    clear H
    have hnb12:=NB326_327.out
    have hnc12:=NB327_326.out
    have hnb13:=NB326_328.out
    have hnc13:=NB328_326.out
    have hcz14_0:wr.cell? ⟨gb326,0,none⟩=some (.int .i64 a0_0):=(blk_cell BK326.out 0).trans rfl
    have hcz14_1:wr.cell? ⟨gb326,1,none⟩=some (.int .i64 a0_1):=(blk_cell BK326.out 1).trans rfl
    have hcz14_2:wr.cell? ⟨gb326,2,none⟩=some (.int .i64 a0_2):=(blk_cell BK326.out 2).trans rfl
    have hcz14_3:wr.cell? ⟨gb326,3,none⟩=some (.int .i64 a0_3):=(blk_cell BK326.out 3).trans rfl
    have hcz14_4:wr.cell? ⟨gb326,4,none⟩=some (.slice A0_4 l0_4.length c0_4):=(blk_cell BK326.out 4).trans rfl
    have hfz14_0:=blk_frozen BK326.out 0
    have hfz14_1:=blk_frozen BK326.out 1
    have hfz14_2:=blk_frozen BK326.out 2
    have hfz14_3:=blk_frozen BK326.out 3
    have hfz14_4:=blk_frozen BK326.out 4
    go_upto_block 2 with (fail)
    go_cut [5] (fun v5 wc=>∃ (kq:Nat) (x5_10:Int),v5=.int .i64 x5_10∧Aside0 (r05_Turn.j2 kq x4_1 x5_10 a0_0 a0_1 a0_2 a0_3 l0_4 a0_2 a0_3 a0_0 a0_1 x329004_1=some (r1,r2,r3,r4,r5))∧Aside0 (kq≤k1)∧Aside0 (Kd.R Kd.string 9 wc w.heap.size (fun _=>True) u329004 x329004_1)∧Aside0 (wc.heap[gb326]?=some (.cells #[.int .i64 a0_0,.int .i64 a0_1,.int .i64 a0_2,.int .i64 a0_3,(.slice A0_4 l0_4.length c0_4)] 41 (0,0)))∧Aside0 (wc.heap[gb327]?=some (.cells #[.int .i64 0,.int .i64 0,.int .i64 0,.int .i64 0,(.slice none 0 0)] 41 (0,0)))∧Aside0 (wc.heap[gb328]?=some (.cells #[.int .i64 a0_2,.int .i64 a0_3,.int .i64 a0_0,.int .i64 a0_1,u329004] 41 (0,0)))∧Aside0 (Below w.heap.size w wc))
    case first =>
     have H:=HC11.out
     clear HC11
     have H':=Aside0.mk H
     clear H
     go_wp2
     go_loopg [5] k1 (fun kq v5 w'=>∃ (x5_2:Int),v5=.int .i64 x5_2∧Aside0 (r05_Turn.l1 kq x4_1 x5_2 a0_0 a0_1 a0_2 a0_3 l0_4 a0_2 a0_3 a0_0 a0_1 x329004_1=some (r1,r2,r3,r4,r5))∧Aside0 (kq≤k1)∧Aside0 (Kd.R Kd.string 9 w' w.heap.size (fun _=>True) u329004 x329004_1)∧Aside0 (w'.heap[gb326]?=some (.cells #[.int .i64 a0_0,.int .i64 a0_1,.int .i64 a0_2,.int .i64 a0_3,(.slice A0_4 l0_4.length c0_4)] 41 (0,0)))∧Aside0 (w'.heap[gb327]?=some (.cells #[.int .i64 0,.int .i64 0,.int .i64 0,.int .i64 0,(.slice none 0 0)] 41 (0,0)))∧Aside0 (w'.heap[gb328]?=some (.cells #[.int .i64 a0_2,.int .i64 a0_3,.int .i64 a0_0,.int .i64 a0_1,u329004] 41 (0,0)))∧Aside0 (Below w.heap.size w w'))
     case atStart=>exact ⟨(x4_1),rx,H',⟨Nat.le_refl _⟩,⟨by (with_reducible repeat (first|apply Kd.R_alloc|apply Kd.R_drewN|apply Kd.R_drew));exact HO_329004.out⟩,⟨by (with_reducible repeat (first|refine blk_drewN ?_ _|refine blk_drew ?_|refine blk_alloc ?_ _));exact BK326.out⟩,⟨by (with_reducible repeat (first|refine blk_drewN ?_ _|refine blk_drew ?_|refine blk_alloc ?_ _));exact BK327.out⟩,⟨by (with_reducible repeat (first|refine blk_drewN ?_ _|refine blk_drew ?_|refine blk_alloc ?_ _));exact BK328.out⟩,⟨by repeat (first|(with_reducible first|exact HB.out|apply below_alloc|apply pw_below_drewN|apply below_drew1|refine below_set ?_ GE326.out|refine below_set ?_ GE327.out|refine below_set ?_ GE328.out)|exact HB.out)⟩⟩
     case round =>
      clear H'
      try clear c1
      try clear c2
      try clear p2
      try clear c4
      try clear c7
      try clear c8
      try clear c10
      try clear c10b0
      try clear c12
      try clear c13
      try clear hcz14_0
      try clear hcz14_1
      try clear hcz14_2
      try clear hcz14_3
      try clear hcz14_4
      try clear hcz5_0
      try clear hcz5_1
      try clear hcz5_2
      try clear hcz5_3
      try clear hcz5_4
      try clear hcz9_0
      try clear hcz9_1
      try clear hcz9_2
      try clear hcz9_3
      try clear hcz9_4
      try clear hfz14_0
      try clear hfz14_1
      try clear hfz14_2
      try clear hfz14_3
      try clear hfz14_4
      try clear hfz5_0
      try clear hfz5_1
      try clear hfz5_2
      try clear hfz5_3
      try clear hfz5_4
      try clear hfz9_0
      try clear hfz9_1
      try clear hfz9_2
      try clear hfz9_3
      try clear hfz9_4
      try clear p2
      obtain ⟨x5_2,rfl,HA,HK2,HO_329004,BK326,BK327,BK328,HB⟩:=hrel
      cases gk with
      | zero=>exact absurd HA.out (by simp [r05_Turn.l1])
      | succ k2 =>
       have H:=HA.out
       clear HA
       simp only [r05_Turn.l1] at H
       by_cases c15:x5_2<(l0_4.length:Int)
       ·rw [if_pos c15] at H
        have c15b0:decide (x5_2<(l0_4.length:Int))=true:=decide_eq_true c15
        clear c15
        (first|rw [c15b0]|(simp only [i64_w,i32_w];rw [c15b0])|skip)
        by_cases c16:0≤x5_2
        ·rw [if_pos c16] at H
         have c16b0:decide (0≤x5_2)=true:=decide_eq_true c16
         clear c16
         by_cases c17:0<((rdOf ByteArray.empty l0_4 x5_2).size:Int)
         ·rw [if_pos c17] at H
          have c17b0:decide (0<((rdOf ByteArray.empty l0_4 x5_2).size:Int))=true:=decide_eq_true c17
          have c17b1:decide (0<(rdOf ByteArray.empty l0_4 x5_2).size)=true:=decide_eq_true (by omega)
          clear c17
          by_cases c19:(bt (rdOf ByteArray.empty l0_4 x5_2) 0)=32
          ·rw [if_pos c19] at H
           have c19b0:((bt (rdOf ByteArray.empty l0_4 x5_2) 0) == 32)=true:=beq_iff_eq.mpr c19
           have c19b1:((bt (rdOf ByteArray.empty l0_4 x5_2) 0) != 32)=false:=bne_eq_false_iff_eq.mpr c19
           clear c19
           have H':=Aside0.mk H
           clear H
           have hnb20:=NB326_327.out
           have hnc20:=NB327_326.out
           have hnb21:=NB326_328.out
           have hnc21:=NB328_326.out
           have hcz22_0:wr.cell? ⟨gb326,0,none⟩=some (.int .i64 a0_0):=(blk_cell BK326.out 0).trans rfl
           have hcz22_1:wr.cell? ⟨gb326,1,none⟩=some (.int .i64 a0_1):=(blk_cell BK326.out 1).trans rfl
           have hcz22_2:wr.cell? ⟨gb326,2,none⟩=some (.int .i64 a0_2):=(blk_cell BK326.out 2).trans rfl
           have hcz22_3:wr.cell? ⟨gb326,3,none⟩=some (.int .i64 a0_3):=(blk_cell BK326.out 3).trans rfl
           have hcz22_4:wr.cell? ⟨gb326,4,none⟩=some (.slice A0_4 l0_4.length c0_4):=(blk_cell BK326.out 4).trans rfl
           have hfz22_0:=blk_frozen BK326.out 0
           have hfz22_1:=blk_frozen BK326.out 1
           have hfz22_2:=blk_frozen BK326.out 2
           have hfz22_3:=blk_frozen BK326.out 3
           have hfz22_4:=blk_frozen BK326.out 4
           have p329:0≤(x5_2:Int):=of_decide_eq_true asm
           have q329:x5_2<(l0_4.length:Int):=of_decide_eq_true asm
           obtain ⟨ad329,e329,hx329_0⟩:=Kd.at_string HR0_4.out x5_2 p329 q329
           cases e329
           replace hx329_0:=pw_cell_below HB.out hx329_0
           replace p329:=eq_true p329
           replace q329:=eq_true q329
           have p18:0≤(0:Int):=(by omega)
           have q18:0<(rdOf ByteArray.empty l0_4 x5_2).size:=(by have:(0:Int)<((rdOf ByteArray.empty l0_4 x5_2).size:Int):=of_decide_eq_true asm;omega)
           have hx18:∀ h:0<(rdOf ByteArray.empty l0_4 x5_2).size,(((rdOf ByteArray.empty l0_4 x5_2)[0]'h).toNat:Int)=bt (rdOf ByteArray.empty l0_4 x5_2) 0:=bt_at (rdOf ByteArray.empty l0_4 x5_2) 0
           clear p18
           have qi18:(0<((rdOf ByteArray.empty l0_4 x5_2).size:Int))=True:=eq_true (of_decide_eq_true asm)
           replace q18:=eq_true q18
           go_wp2
           go_meet
           case rel=>exact ⟨_,(x5_2),rx,H',⟨by have:=HK1.out;have:=HK2.out;first|omega|exact Nat.le_refl _⟩,⟨by (with_reducible repeat (first|apply Kd.R_alloc|apply Kd.R_drewN|apply Kd.R_drew));exact HO_329004.out⟩,⟨by (with_reducible repeat (first|refine blk_drewN ?_ _|refine blk_drew ?_|refine blk_alloc ?_ _));exact BK326.out⟩,⟨by (with_reducible repeat (first|refine blk_drewN ?_ _|refine blk_drew ?_|refine blk_alloc ?_ _));exact BK327.out⟩,⟨by (with_reducible repeat (first|refine blk_drewN ?_ _|refine blk_drew ?_|refine blk_alloc ?_ _));exact BK328.out⟩,⟨by repeat (first|(with_reducible first|exact HB.out|apply below_alloc|apply pw_below_drewN|apply below_drew1|refine below_set ?_ GE326.out|refine below_set ?_ GE327.out|refine below_set ?_ GE328.out)|exact HB.out)⟩⟩
          ·rw [if_neg c19] at H
           have c19b0:((bt (rdOf ByteArray.empty l0_4 x5_2) 0) == 32)=false:=beq_eq_false_iff_ne.mpr c19
           have c19b1:((bt (rdOf ByteArray.empty l0_4 x5_2) 0) != 32)=true:=bne_iff_ne.mpr c19
           have H':=Aside0.mk H
           clear H
           have hnb23:=NB326_327.out
           have hnc23:=NB327_326.out
           have hnb24:=NB326_328.out
           have hnc24:=NB328_326.out
           have hcz25_0:wr.cell? ⟨gb326,0,none⟩=some (.int .i64 a0_0):=(blk_cell BK326.out 0).trans rfl
           have hcz25_1:wr.cell? ⟨gb326,1,none⟩=some (.int .i64 a0_1):=(blk_cell BK326.out 1).trans rfl
           have hcz25_2:wr.cell? ⟨gb326,2,none⟩=some (.int .i64 a0_2):=(blk_cell BK326.out 2).trans rfl
           have hcz25_3:wr.cell? ⟨gb326,3,none⟩=some (.int .i64 a0_3):=(blk_cell BK326.out 3).trans rfl
           have hcz25_4:wr.cell? ⟨gb326,4,none⟩=some (.slice A0_4 l0_4.length c0_4):=(blk_cell BK326.out 4).trans rfl
           have hfz25_0:=blk_frozen BK326.out 0
           have hfz25_1:=blk_frozen BK326.out 1
           have hfz25_2:=blk_frozen BK326.out 2
           have hfz25_3:=blk_frozen BK326.out 3
           have hfz25_4:=blk_frozen BK326.out 4
           have p329:0≤(x5_2:Int):=of_decide_eq_true asm
           have q329:x5_2<(l0_4.length:Int):=of_decide_eq_true asm
           obtain ⟨ad329,e329,hx329_0⟩:=Kd.at_string HR0_4.out x5_2 p329 q329
           cases e329
           replace hx329_0:=pw_cell_below HB.out hx329_0
           replace p329:=eq_true p329
           replace q329:=eq_true q329
           have p18:0≤(0:Int):=(by omega)
           have q18:0<(rdOf ByteArray.empty l0_4 x5_2).size:=(by have:(0:Int)<((rdOf ByteArray.empty l0_4 x5_2).size:Int):=of_decide_eq_true asm;omega)
           have hx18:∀ h:0<(rdOf ByteArray.empty l0_4 x5_2).size,(((rdOf ByteArray.empty l0_4 x5_2)[0]'h).toNat:Int)=bt (rdOf ByteArray.empty l0_4 x5_2) 0:=bt_at (rdOf ByteArray.empty l0_4 x5_2) 0
           clear p18
           have qi18:(0<((rdOf ByteArray.empty l0_4 x5_2).size:Int))=True:=eq_true (of_decide_eq_true asm)
           replace q18:=eq_true q18
           go_wp2
           go_roundg k2
           case measure=>have:=HK1.out;have:=HK2.out;omega
           case rel=>exact ⟨(wrap64 (x5_2+1)),rx,H',⟨by have:=HK1.out;have:=HK2.out;omega⟩,⟨by (with_reducible repeat (first|apply Kd.R_alloc|apply Kd.R_drewN|apply Kd.R_drew));exact HO_329004.out⟩,⟨by (with_reducible repeat (first|refine blk_drewN ?_ _|refine blk_drew ?_|refine blk_alloc ?_ _));exact BK326.out⟩,⟨by (with_reducible repeat (first|refine blk_drewN ?_ _|refine blk_drew ?_|refine blk_alloc ?_ _));exact BK327.out⟩,⟨by (with_reducible repeat (first|refine blk_drewN ?_ _|refine blk_drew ?_|refine blk_alloc ?_ _));exact BK328.out⟩,⟨by repeat (first|(with_reducible first|exact HB.out|apply below_alloc|apply pw_below_drewN|apply below_drew1|refine below_set ?_ GE326.out|refine below_set ?_ GE327.out|refine below_set ?_ GE328.out)|exact HB.out)⟩⟩
         ·rw [if_neg c17] at H
          exact absurd H (by simp)
        ·rw [if_neg c16] at H
         exact absurd H (by simp)
       ·rw [if_neg c15] at H
        have c15b0:decide (x5_2<(l0_4.length:Int))=false:=decide_eq_false c15
        clear c15
        (first|rw [c15b0]|(simp only [i64_w,i32_w];rw [c15b0])|skip)
        have H':=Aside0.mk H
        clear H
        have hnb26:=NB326_327.out
        have hnc26:=NB327_326.out
        have hnb27:=NB326_328.out
        have hnc27:=NB328_326.out
        have hcz28_0:wr.cell? ⟨gb326,0,none⟩=some (.int .i64 a0_0):=(blk_cell BK326.out 0).trans rfl
        have hcz28_1:wr.cell? ⟨gb326,1,none⟩=some (.int .i64 a0_1):=(blk_cell BK326.out 1).trans rfl
        have hcz28_2:wr.cell? ⟨gb326,2,none⟩=some (.int .i64 a0_2):=(blk_cell BK326.out 2).trans rfl
        have hcz28_3:wr.cell? ⟨gb326,3,none⟩=some (.int .i64 a0_3):=(blk_cell BK326.out 3).trans rfl
        have hcz28_4:wr.cell? ⟨gb326,4,none⟩=some (.slice A0_4 l0_4.length c0_4):=(blk_cell BK326.out 4).trans rfl
        have hfz28_0:=blk_frozen BK326.out 0
        have hfz28_1:=blk_frozen BK326.out 1
        have hfz28_2:=blk_frozen BK326.out 2
        have hfz28_3:=blk_frozen BK326.out 3
        have hfz28_4:=blk_frozen BK326.out 4
        go_wp2
        go_meet
        case rel=>exact ⟨_,(x5_2),rx,H',⟨by have:=HK1.out;have:=HK2.out;first|omega|exact Nat.le_refl _⟩,⟨by (with_reducible repeat (first|apply Kd.R_alloc|apply Kd.R_drewN|apply Kd.R_drew));exact HO_329004.out⟩,⟨by (with_reducible repeat (first|refine blk_drewN ?_ _|refine blk_drew ?_|refine blk_alloc ?_ _));exact BK326.out⟩,⟨by (with_reducible repeat (first|refine blk_drewN ?_ _|refine blk_drew ?_|refine blk_alloc ?_ _));exact BK327.out⟩,⟨by (with_reducible repeat (first|refine blk_drewN ?_ _|refine blk_drew ?_|refine blk_alloc ?_ _));exact BK328.out⟩,⟨by repeat (first|(with_reducible first|exact HB.out|apply below_alloc|apply pw_below_drewN|apply below_drew1|refine below_set ?_ GE326.out|refine below_set ?_ GE327.out|refine below_set ?_ GE328.out)|exact HB.out)⟩⟩
    case rest =>
     clear HC11
     try clear c1
     try clear p1
     try clear q1
     try clear hx1
     try clear qi1
     try clear c2
     try clear p2
     try clear p3
     try clear q3
     try clear hx3
     try clear c4
     try clear p6
     try clear c7
     try clear c8
     try clear c10
     try clear c10b0
     try clear c12
     try clear c13
     try clear c15
     try clear c15b0
     try clear c16
     try clear c16b0
     try clear c17
     try clear c17b0
     try clear c17b1
     try clear p18
     try clear q18
     try clear hx18
     try clear qi18
     try clear c19
     try clear c19b0
     try clear c19b1
     try clear c20
     try clear c21
     try clear c23
     try clear c24
     try clear c26
     try clear c27
     try clear c28
     try clear hcz14_0
     try clear hcz14_1
     try clear hcz14_2
     try clear hcz14_3
     try clear hcz14_4
     try clear hcz22_0
     try clear hcz22_1
     try clear hcz22_2
     try clear hcz22_3
     try clear hcz22_4
     try clear hcz25_0
     try clear hcz25_1
     try clear hcz25_2
     try clear hcz25_3
     try clear hcz25_4
     try clear hcz28_0
     try clear hcz28_1
     try clear hcz28_2
     try clear hcz28_3
     try clear hcz28_4
     try clear hcz5_0
     try clear hcz5_1
     try clear hcz5_2
     try clear hcz5_3
     try clear hcz5_4
     try clear hcz9_0
     try clear hcz9_1
     try clear hcz9_2
     try clear hcz9_3
     try clear hcz9_4
     try clear hfz14_0
     try clear hfz14_1
     try clear hfz14_2
     try clear hfz14_3
     try clear hfz14_4
     try clear hfz22_0
     try clear hfz22_1
     try clear hfz22_2
     try clear hfz22_3
     try clear hfz22_4
     try clear hfz25_0
     try clear hfz25_1
     try clear hfz25_2
     try clear hfz25_3
     try clear hfz25_4
     try clear hfz28_0
     try clear hfz28_1
     try clear hfz28_2
     try clear hfz28_3
     try clear hfz28_4
     try clear hfz5_0
     try clear hfz5_1
     try clear hfz5_2
     try clear hfz5_3
     try clear hfz5_4
     try clear hfz9_0
     try clear hfz9_1
     try clear hfz9_2
     try clear hfz9_3
     try clear hfz9_4
     try clear hx329_0
     try clear p18
     try clear p2
     try clear p329
     try clear q18
     try clear q329
     obtain ⟨kq,x5_10,rfl,HA,HJ10,HO_329004,BK326,BK327,BK328,HB⟩:=hcut
     cases kq with
     | zero=>exact absurd HA.out (by simp [r05_Turn.j2])
     | succ kj10 =>
      have H:=HA.out
      clear HA
      simp only [r05_Turn.j2] at H
      have H':=Aside0.mk H
      clear H
      go_wp2
      go_loopg [6] kj10 (fun kq v6 w'=>∃ (x6_3:Int) (x329004_3:List ByteArray) (u329004:Value),v6=.int .i64 x6_3∧Aside0 (r05_Turn.l2 kq x4_1 x5_10 x6_3 a0_0 a0_1 a0_2 a0_3 l0_4 a0_2 a0_3 a0_0 a0_1 x329004_3=some (r1,r2,r3,r4,r5))∧Aside0 (kq≤kj10)∧Aside0 (Kd.R Kd.string 9 w' w.heap.size (fun _=>True) u329004 x329004_3)∧Aside0 (w'.heap[gb326]?=some (.cells #[.int .i64 a0_0,.int .i64 a0_1,.int .i64 a0_2,.int .i64 a0_3,(.slice A0_4 l0_4.length c0_4)] 41 (0,0)))∧Aside0 (w'.heap[gb327]?=some (.cells #[.int .i64 0,.int .i64 0,.int .i64 0,.int .i64 0,(.slice none 0 0)] 41 (0,0)))∧Aside0 (w'.heap[gb328]?=some (.cells #[.int .i64 a0_2,.int .i64 a0_3,.int .i64 a0_0,.int .i64 a0_1,u329004] 41 (0,0)))∧Aside0 (Below w.heap.size w w'))
      case atStart=>exact ⟨(x4_1),(x329004_1),(u329004),rx,H',⟨Nat.le_refl _⟩,⟨by (with_reducible repeat (first|apply Kd.R_alloc|apply Kd.R_drewN|apply Kd.R_drew));exact HO_329004.out⟩,⟨by (with_reducible repeat (first|refine blk_drewN ?_ _|refine blk_drew ?_|refine blk_alloc ?_ _));exact BK326.out⟩,⟨by (with_reducible repeat (first|refine blk_drewN ?_ _|refine blk_drew ?_|refine blk_alloc ?_ _));exact BK327.out⟩,⟨by (with_reducible repeat (first|refine blk_drewN ?_ _|refine blk_drew ?_|refine blk_alloc ?_ _));exact BK328.out⟩,⟨by repeat (first|(with_reducible first|exact HB.out|apply below_alloc|apply pw_below_drewN|apply below_drew1|refine below_set ?_ GE326.out|refine below_set ?_ GE327.out|refine below_set ?_ GE328.out)|exact HB.out)⟩⟩
      case round =>
       clear H'
       try clear c1
       try clear p1
       try clear q1
       try clear hx1
       try clear qi1
       try clear c2
       try clear p2
       try clear p3
       try clear q3
       try clear hx3
       try clear c4
       try clear p6
       try clear c7
       try clear c8
       try clear c10
       try clear c10b0
       try clear c12
       try clear c13
       try clear c15
       try clear c15b0
       try clear c16
       try clear c16b0
       try clear c17
       try clear c17b0
       try clear c17b1
       try clear p18
       try clear q18
       try clear hx18
       try clear qi18
       try clear c19
       try clear c19b0
       try clear c19b1
       try clear c20
       try clear c21
       try clear c23
       try clear c24
       try clear c26
       try clear c27
       try clear c28
       try clear hcz14_0
       try clear hcz14_1
       try clear hcz14_2
       try clear hcz14_3
       try clear hcz14_4
       try clear hcz22_0
       try clear hcz22_1
       try clear hcz22_2
       try clear hcz22_3
       try clear hcz22_4
       try clear hcz25_0
       try clear hcz25_1
       try clear hcz25_2
       try clear hcz25_3
       try clear hcz25_4
       try clear hcz28_0
       try clear hcz28_1
       try clear hcz28_2
       try clear hcz28_3
       try clear hcz28_4
       try clear hcz5_0
       try clear hcz5_1
       try clear hcz5_2
       try clear hcz5_3
       try clear hcz5_4
       try clear hcz9_0
       try clear hcz9_1
       try clear hcz9_2
       try clear hcz9_3
       try clear hcz9_4
       try clear hfz14_0
       try clear hfz14_1
       try clear hfz14_2
       try clear hfz14_3
       try clear hfz14_4
       try clear hfz22_0
       try clear hfz22_1
       try clear hfz22_2
       try clear hfz22_3
       try clear hfz22_4
       try clear hfz25_0
       try clear hfz25_1
       try clear hfz25_2
       try clear hfz25_3
       try clear hfz25_4
       try clear hfz28_0
       try clear hfz28_1
       try clear hfz28_2
       try clear hfz28_3
       try clear hfz28_4
       try clear hfz5_0
       try clear hfz5_1
       try clear hfz5_2
       try clear hfz5_3
       try clear hfz5_4
       try clear hfz9_0
       try clear hfz9_1
       try clear hfz9_2
       try clear hfz9_3
       try clear hfz9_4
       try clear hx329_0
       try clear p1
       try clear p18
       try clear p2
       try clear p3
       try clear p329
       try clear p6
       try clear q1
       try clear q18
       try clear q3
       try clear q329
       obtain ⟨x6_3,x329004_3,u329004,rfl,HA,HK3,HO_329004,BK326,BK327,BK328,HB⟩:=hrel
       cases gk with
       | zero=>exact absurd HA.out (by simp [r05_Turn.l2])
       | succ k3 =>
        have H:=HA.out
        clear HA
        simp only [r05_Turn.l2] at H
        by_cases c29:x6_3<x5_10
        ·rw [if_pos c29] at H
         have c29b0:decide (x6_3<x5_10)=true:=decide_eq_true c29
         clear c29
         by_cases c30:0≤x6_3
         ·rw [if_pos c30] at H
          have c30b0:decide (0≤x6_3)=true:=decide_eq_true c30
          clear c30
          by_cases c31:x6_3<(l0_4.length:Int)
          ·rw [if_pos c31] at H
           have c31b0:decide (x6_3<(l0_4.length:Int))=true:=decide_eq_true c31
           clear c31
           by_cases c32:0<((rdOf ByteArray.empty l0_4 x6_3).size:Int)
           ·rw [if_pos c32] at H
            have c32b0:decide (0<((rdOf ByteArray.empty l0_4 x6_3).size:Int))=true:=decide_eq_true c32
            have c32b1:decide (0<(rdOf ByteArray.empty l0_4 x6_3).size)=true:=decide_eq_true (by omega)
            clear c32
            by_cases c34:(bt (rdOf ByteArray.empty l0_4 x6_3) 0)=43
            ·rw [if_pos c34] at H
             have c34b0:((bt (rdOf ByteArray.empty l0_4 x6_3) 0) == 43)=true:=beq_iff_eq.mpr c34
             have c34b1:((bt (rdOf ByteArray.empty l0_4 x6_3) 0) != 43)=false:=bne_eq_false_iff_eq.mpr c34
             clear c34
             by_cases c35:1≤((rdOf ByteArray.empty l0_4 x6_3).size:Int)
             ·rw [if_pos c35] at H
              have c35b0:=eq_true c35
              have c35b1:decide (1≤((rdOf ByteArray.empty l0_4 x6_3).size:Int))=true:=decide_eq_true c35
              clear c35
              by_cases c36:1+((rdOf ByteArray.empty l0_4 x6_3).extract 1 (rdOf ByteArray.empty l0_4 x6_3).size).size≤9223372036854775807
              ·rw [if_pos c36] at H
               have c36x:(9223372036854775807<1+((rdOf ByteArray.empty l0_4 x6_3).size - 1))=False:=by have h_:=c36;rw [ByteArray.size_extract,Nat.min_self] at h_;exact eq_false (Nat.not_lt.2 h_)
               have c36b0:=eq_true c36
               have c36b1:decide (1+((rdOf ByteArray.empty l0_4 x6_3).extract 1 (rdOf ByteArray.empty l0_4 x6_3).size).size≤9223372036854775807)=true:=decide_eq_true c36
               try have c36b2:(9223372036854775807<1+((rdOf ByteArray.empty l0_4 x6_3).extract 1 (rdOf ByteArray.empty l0_4 x6_3).size).size)=False:=eq_false (Nat.not_lt.2 c36)
               by_cases c37:x329004_3.length<8796093022208
               ·rw [if_pos c37] at H
                have LMc37:=Aside0.mk c37
                clear c37
                obtain ⟨y332,hy332⟩:∃ y_:List ByteArray,y_=(x329004_3++[(⟨#[45]⟩:ByteArray)++((rdOf ByteArray.empty l0_4 x6_3).extract 1 (rdOf ByteArray.empty l0_4 x6_3).size)]):=⟨_,rfl⟩
                replace H:(r05_Turn.l2 k3 x4_1 x5_10 (wrap64 (x6_3+1)) a0_0 a0_1 a0_2 a0_3 l0_4 a0_2 a0_3 a0_0 a0_1 y332)=some (r1,r2,r3,r4,r5):=by first|(rw [hy332];with_reducible exact H)|(have H2_:=(Option.bind_some _ _).symm.trans H;rw [hy332];with_reducible exact H2_)|(have H2_:=(Option.bind_some _ _).symm.trans H;with_reducible exact H2_)|with_reducible exact H|(rw [hy332];exact H)|exact H
                have Ny332:=Aside0.mk hy332
                clear hy332
                have H':=Aside0.mk H
                clear H
                have hnb38:=NB326_327.out
                have hnc38:=NB327_326.out
                have hnb39:=NB326_328.out
                have hnc39:=NB328_326.out
                have hcz40_0:wr.cell? ⟨gb326,0,none⟩=some (.int .i64 a0_0):=(blk_cell BK326.out 0).trans rfl
                have hcz40_1:wr.cell? ⟨gb326,1,none⟩=some (.int .i64 a0_1):=(blk_cell BK326.out 1).trans rfl
                have hcz40_2:wr.cell? ⟨gb326,2,none⟩=some (.int .i64 a0_2):=(blk_cell BK326.out 2).trans rfl
                have hcz40_3:wr.cell? ⟨gb326,3,none⟩=some (.int .i64 a0_3):=(blk_cell BK326.out 3).trans rfl
                have hcz40_4:wr.cell? ⟨gb326,4,none⟩=some (.slice A0_4 l0_4.length c0_4):=(blk_cell BK326.out 4).trans rfl
                have hfz40_0:=blk_frozen BK326.out 0
                have hfz40_1:=blk_frozen BK326.out 1
                have hfz40_2:=blk_frozen BK326.out 2
                have hfz40_3:=blk_frozen BK326.out 3
                have hfz40_4:=blk_frozen BK326.out 4
                have p330:0≤(x6_3:Int):=of_decide_eq_true asm
                have q330:x6_3<(l0_4.length:Int):=of_decide_eq_true asm
                obtain ⟨ad330,e330,hx330_0⟩:=Kd.at_string HR0_4.out x6_3 p330 q330
                cases e330
                replace hx330_0:=pw_cell_below HB.out hx330_0
                replace p330:=eq_true p330
                replace q330:=eq_true q330
                have p33:0≤(0:Int):=(by omega)
                have q33:0<(rdOf ByteArray.empty l0_4 x6_3).size:=(by have:(0:Int)<((rdOf ByteArray.empty l0_4 x6_3).size:Int):=of_decide_eq_true asm;omega)
                have hx33:∀ h:0<(rdOf ByteArray.empty l0_4 x6_3).size,(((rdOf ByteArray.empty l0_4 x6_3)[0]'h).toNat:Int)=bt (rdOf ByteArray.empty l0_4 x6_3) 0:=bt_at (rdOf ByteArray.empty l0_4 x6_3) 0
                clear p33
                have qi33:(0<((rdOf ByteArray.empty l0_4 x6_3).size:Int))=True:=eq_true (of_decide_eq_true asm)
                replace q33:=eq_true q33
                try go_wp2
                have n0_:=Aside0.mk (Kd.R_drew HO_329004.out)
                have n1_:=Aside0.mk (blk_drew BK326.out)
                have n2_:=Aside0.mk (blk_drew BK327.out)
                have n3_:=Aside0.mk (blk_drew BK328.out)
                have n4_:=Aside0.mk (below_drew1 HB.out)
                clear HO_329004
                clear BK326
                clear BK327
                clear BK328
                clear HB
                have HO_329004:=n0_
                have BK326:=n1_
                have BK327:=n2_
                have BK328:=n3_
                have HB:=n4_
                clear n0_ n1_ n2_ n3_ n4_
                have p331:0≤(x6_3:Int):=of_decide_eq_true asm
                have q331:x6_3<(l0_4.length:Int):=of_decide_eq_true asm
                obtain ⟨ad331,e331,hx331_0⟩:=Kd.at_string HR0_4.out x6_3 p331 q331
                have hw331_0:=hx331_0
                obtain rfl:ad330=ad331:=(by injection e331)
                replace hx331_0:=pw_cell_below HB.out hx331_0
                replace p331:=eq_true p331
                replace q331:=eq_true q331
                refine start_ (n:=13) (S:=fun w'=>w'.cell? ⟨gb328,0,none⟩=some (.int .i64 a0_2)∧w'.cell? ⟨gb328,1,none⟩=some (.int .i64 a0_3)∧w'.cell? ⟨gb328,2,none⟩=some (.int .i64 a0_0)∧w'.cell? ⟨gb328,3,none⟩=some (.int .i64 a0_1)∧w'.cell? ⟨gb328,4,none⟩=some (u329004)∧w'.cell? ⟨gb326,0,none⟩=some (.int .i64 a0_0)∧w'.cell? ⟨gb326,1,none⟩=some (.int .i64 a0_1)∧w'.cell? ⟨gb326,2,none⟩=some (.int .i64 a0_2)∧w'.cell? ⟨gb326,3,none⟩=some (.int .i64 a0_3)∧w'.cell? ⟨gb326,4,none⟩=some (.slice (some ad330) l0_4.length c0_4)∧w'.cell? (ad330.add (x6_3).toNat)=some (.string (rdOf ByteArray.empty l0_4 x6_3))) (ds:=[12]) #[false,false,false,false,false,false,false,false,false,false,false,false,false] (by kernel_rfl) rfl rfl ⟨(blk_cell BK328.out 0).trans rfl,(blk_cell BK328.out 1).trans rfl,(blk_cell BK328.out 2).trans rfl,(blk_cell BK328.out 3).trans rfl,(blk_cell BK328.out 4).trans rfl,(blk_cell BK326.out 0).trans rfl,(blk_cell BK326.out 1).trans rfl,(blk_cell BK326.out 2).trans rfl,(blk_cell BK326.out 3).trans rfl,(blk_cell BK326.out 4).trans rfl,((HB.out.cell (World.block_lt_of_cell? w _ hw331_0)).trans hw331_0)⟩ (fun hHeld=>?_);refine with_tabW r05_Turn.tab11 r05_Turn.bits11 (fun HT_ HW_=>?_)
                generalize wr.drew=w41 at HO_329004 BK326 BK327 BK328 HB hx331_0 hHeld ⊢
                refine pu 0 (some 52) rfl rfl ?_
                refine pu 2 (some 54) rfl rfl ?_
                refine pu 4 (some 56) rfl rfl ?_
                refine take_ (i:=1) (N:=some 53) (v:=?_) (a':=?_) #[true,true,true,false,true,false,false,false,false,false,false,false,false] rfl rfl (take_ofW HT_.out HW_.out (by kernel_rfl)) (fun _ _ _ h=>h) (Or.inl ⟨by rfl,?_⟩) hHeld ?_ ?_
                rotate_left
                ·rintro w' ⟨s0,s1,s2,s3,s4,s5,s6,s7,s8,s9,s10⟩
                 go_simp
                 with_reducible rfl
                rotate_left
                ·simp only [Act.put,List.setIfInBounds_toArray,List.set_cons_zero,List.set_cons_succ,i64_w,i32_w]
                 rfl
                refine take_ (i:=3) (N:=some 55) (v:=?_) (a':=?_) #[true,true,true,true,true,false,false,false,false,false,false,false,false] rfl rfl (take_ofW HT_.out HW_.out (by kernel_rfl)) (fun _ _ _ h=>h) (Or.inl ⟨by rfl,?_⟩) hHeld ?_ ?_
                rotate_left
                ·rintro w' ⟨s0,s1,s2,s3,s4,s5,s6,s7,s8,s9,s10⟩
                 go_simp
                 with_reducible rfl
                rotate_left
                ·simp only [Act.put,List.setIfInBounds_toArray,List.set_cons_zero,List.set_cons_succ,i64_w,i32_w]
                 rfl
                refine pu 5 (some 57) rfl rfl ?_
                refine take_ (i:=6) (N:=some 58) (v:=?_) (a':=?_) #[true,true,true,true,true,true,true,false,false,false,false,false,false] rfl rfl (take_ofW HT_.out HW_.out (by kernel_rfl)) (fun _ _ _ h=>h) (Or.inl ⟨by rfl,?_⟩) hHeld ?_ ?_
                rotate_left
                ·rintro w' ⟨s0,s1,s2,s3,s4,s5,s6,s7,s8,s9,s10⟩
                 go_simp
                 with_reducible rfl
                rotate_left
                ·simp only [Act.put,List.setIfInBounds_toArray,List.set_cons_zero,List.set_cons_succ,i64_w,i32_w]
                 rfl
                refine pu 7 (some 59) rfl rfl ?_
                refine pure_ (i:=8) (N:=some 60) (v:=?_) (a':=?_) #[true,true,true,true,true,true,true,true,true,false,false,false,false] rfl rfl (any_of HT_.out (by kernel_rfl)) (fun _ _ _ h=>h) (Or.inl ⟨by rfl,?_⟩) ?_ ?_
                rotate_left
                ·intro w'
                 go_simp
                 with_reducible rfl
                rotate_left
                ·simp only [Act.put,List.setIfInBounds_toArray,List.set_cons_zero,List.set_cons_succ,i64_w,i32_w]
                 rfl
                refine one_ (i:=9) (N:=some 61) #[true,true,true,true,true,true,true,true,true,true,false,false,false] rfl rfl (one_of HT_.out (by kernel_rfl)) (by decide) (fun K hK=>?_)
                refine value_ (w1:=?_) (v:=?_) (by rfl) rfl ?_ ?_
                rotate_left 2
                ·go_simp
                 constructor
                 ·rfl
                 ·rfl
                refine hK.out _ _ ⟨(blk_cell (blk_alloc BK328.out _) 0).trans rfl,(blk_cell (blk_alloc BK328.out _) 1).trans rfl,(blk_cell (blk_alloc BK328.out _) 2).trans rfl,(blk_cell (blk_alloc BK328.out _) 3).trans rfl,(blk_cell (blk_alloc BK328.out _) 4).trans rfl,(blk_cell (blk_alloc BK326.out _) 0).trans rfl,(blk_cell (blk_alloc BK326.out _) 1).trans rfl,(blk_cell (blk_alloc BK326.out _) 2).trans rfl,(blk_cell (blk_alloc BK326.out _) 3).trans rfl,(blk_cell (blk_alloc BK326.out _) 4).trans rfl,(World.cell?_alloc_lt _ _ _ (World.block_lt_of_cell? _ _ (((HB.out.cell (World.block_lt_of_cell? w _ hw331_0)).trans hw331_0)))).trans (((HB.out.cell (World.block_lt_of_cell? w _ hw331_0)).trans hw331_0))⟩ (fun hHeld=>?_)
                clear hK K
                refine norm_ (a':=?_) ?_ ?_
                rotate_left
                ·show Act.put _ (some 61) _=_
                 simp only [Act.put,List.setIfInBounds_toArray,List.set_cons_zero,List.set_cons_succ,i64_w,i32_w]
                 rfl
                refine one_ (i:=10) (N:=some 62) #[true,true,true,true,true,true,true,true,true,true,true,false,false] rfl rfl (one_of HT_.out (by kernel_rfl)) (by decide) (fun K hK=>?_)
                refine Kd.R_append_step Kd.string (w0:=w) w.heap.size (by rfl) (.tmp 53) (.tmp 61) 22 9 (.string ⟨#[]⟩) 16 rfl Try.underlying22 info9 rfl (by decide) (by omega) u329004 x329004_3 ((⟨#[45]⟩:ByteArray)++((rdOf ByteArray.empty l0_4 x6_3).extract 1 (rdOf ByteArray.empty l0_4 x6_3).size)) [.string ((⟨#[45]⟩:ByteArray)++((rdOf ByteArray.empty l0_4 x6_3).extract 1 (rdOf ByteArray.empty l0_4 x6_3).size))] (fun _=>True) (fun _=>False) rfl rfl ?aP (fun _ hk=>hk.elim) ?aF ?aO ?aB ?aS ?aL ?_
                (case aP=>exact rfl)
                (case aB=>exact bel)
                (case aF=>exact (fun _ _=>trivial))
                (case aO=>exact (by (with_reducible repeat (first|apply Kd.R_alloc|apply Kd.R_drewN|apply Kd.R_drew));exact HO_329004.out))
                (case aS=>exact (below_size bel))
                (case aL=>have:=LMc37.out;omega)
                intro v333 w42 ho hb hg hat
                rw [← Ny332.out] at ho
                have n0_:=Aside0.mk (blk_grown (g:=gb326) (o:=.cells #[.int .i64 a0_0,.int .i64 a0_1,.int .i64 a0_2,.int .i64 a0_3,.slice (some ad330) l0_4.length c0_4] 41 (0,0)) (by (with_reducible repeat (first|refine blk_drewN ?_ _|refine blk_drew ?_|refine blk_alloc ?_ _));exact BK326.out) hg (Kd.R_ne HO_329004.out BK326.out (by decide)))
                have n1_:=Aside0.mk (blk_grown (g:=gb327) (o:=.cells #[.int .i64 0,.int .i64 0,.int .i64 0,.int .i64 0,.slice none 0 0] 41 (0,0)) (by (with_reducible repeat (first|refine blk_drewN ?_ _|refine blk_drew ?_|refine blk_alloc ?_ _));exact BK327.out) hg (Kd.R_ne HO_329004.out BK327.out (by decide)))
                have n2_:=Aside0.mk (blk_grown (g:=gb328) (o:=.cells #[.int .i64 a0_2,.int .i64 a0_3,.int .i64 a0_0,.int .i64 a0_1,u329004] 41 (0,0)) (by (with_reducible repeat (first|refine blk_drewN ?_ _|refine blk_drew ?_|refine blk_alloc ?_ _));exact BK328.out) hg (Kd.R_ne HO_329004.out BK328.out (by decide)))
                have n3_:=Aside0.mk (hb)
                have n4_:=Aside0.mk (ho)
                clear BK326
                clear BK327
                clear BK328
                clear HB
                clear HO_329004
                have BK326:=n0_
                have BK327:=n1_
                have BK328:=n2_
                have HB:=n3_
                have HO334:=n4_
                clear n0_ n1_ n2_ n3_ n4_
                clear ho hb hg hat
                obtain ⟨Ao43,co43,eo43⟩:=Kd.R_slice HO334.out
                (first|subst eo43|(injection eo43 with f1_ f2_ f3_;have f4_:=f1_.symm;have f5_:=f3_.symm;clear f1_ f2_ f3_;subst f4_;subst f5_))
                refine hK.out _ _ ⟨(blk_cell BK328.out 0).trans rfl,(blk_cell BK328.out 1).trans rfl,(blk_cell BK328.out 2).trans rfl,(blk_cell BK328.out 3).trans rfl,(blk_cell BK328.out 4).trans rfl,(blk_cell BK326.out 0).trans rfl,(blk_cell BK326.out 1).trans rfl,(blk_cell BK326.out 2).trans rfl,(blk_cell BK326.out 3).trans rfl,(blk_cell BK326.out 4).trans rfl,((HB.out.cell (World.block_lt_of_cell? w _ hw331_0)).trans hw331_0)⟩ (fun hHeld=>?_)
                clear hK K
                refine norm_ (a':=?_) ?_ ?_
                rotate_left
                ·show Act.put _ (some 62) _=_
                 simp only [Act.put,List.setIfInBounds_toArray,List.set_cons_zero,List.set_cons_succ,i64_w,i32_w]
                 rfl
                refine pure_ (i:=11) (N:=some 63) (v:=?_) (a':=?_) #[true,true,true,true,true,true,true,true,true,true,true,true,false] rfl rfl (any_of HT_.out (by kernel_rfl)) (fun _ _ _ h=>h) (Or.inl ⟨by rfl,?_⟩) ?_ ?_
                rotate_left
                ·intro w'
                 go_simp
                 with_reducible rfl
                rotate_left
                ·simp only [Act.put,List.setIfInBounds_toArray,List.set_cons_zero,List.set_cons_succ,i64_w,i32_w]
                 rfl
                refine last_ (i:=12) (N:=none) #[true,true,true,true,true,true,true,true,true,true,true,true,true] rfl rfl (one_of HT_.out (by kernel_rfl)) (by decide) (fun K hK=>?_)
                have hs44:w42.cell? ⟨gb328,4,none⟩=some (u329004):=(blk_cell BK328.out 4).trans rfl
                have hfs44:=blk_frozen BK328.out 4
                have hns44_0:=NB326_328.out
                have hns44_1:=NB327_328.out
                have hms44_0:=NB328_326.out
                have hms44_1:=NB328_327.out
                refine skip_ (w1:=?_) (by rfl) rfl ?_ ?_
                rotate_left
                ·go_simp
                 rfl
                refine hK.out _ _ ?_
                clear hK K
                refine done_ (done_of HT_.out (by kernel_rfl)) ?_
                try go_wp2
                go_roundg k3
                case measure=>have:=HK1.out;have:=HJ10.out;have:=HK3.out;omega
                case rel=>exact ⟨(wrap64 (x6_3+1)),(y332),(.slice Ao43 y332.length co43),rx,H',⟨by have:=HK1.out;have:=HJ10.out;have:=HK3.out;omega⟩,⟨by (with_reducible repeat (first|apply Kd.R_alloc|apply Kd.R_drewN|apply Kd.R_drew));exact Kd.R_mono (Kd.R_far (p:=⟨gb328,4,none⟩) (Kd.R_types HO334.out BK328.out (by decide)) (fun _ hk=>hk.2) (.slice Ao43 y332.length co43)) (fun _ hk=>trivial)⟩,⟨by (with_reducible repeat (first|refine blk_drewN ?_ _|refine blk_drew ?_|refine blk_alloc ?_ _));refine blk_far ?_ NB326_328.out _;(with_reducible repeat (first|refine blk_drewN ?_ _|refine blk_drew ?_|refine blk_alloc ?_ _));exact BK326.out⟩,⟨by (with_reducible repeat (first|refine blk_drewN ?_ _|refine blk_drew ?_|refine blk_alloc ?_ _));refine blk_far ?_ NB327_328.out _;(with_reducible repeat (first|refine blk_drewN ?_ _|refine blk_drew ?_|refine blk_alloc ?_ _));exact BK327.out⟩,⟨by (with_reducible repeat (first|refine blk_drewN ?_ _|refine blk_drew ?_|refine blk_alloc ?_ _));refine blk_put (cs:=#[.int .i64 a0_2,.int .i64 a0_3,.int .i64 a0_0,.int .i64 a0_1,u329004]) ?_ 4 _ rfl;(with_reducible repeat (first|refine blk_drewN ?_ _|refine blk_drew ?_|refine blk_alloc ?_ _));exact BK328.out⟩,⟨by repeat (first|(with_reducible first|exact HB.out|apply below_alloc|apply pw_below_drewN|apply below_drew1|refine below_set ?_ GE326.out|refine below_set ?_ GE327.out|refine below_set ?_ GE328.out)|exact HB.out)⟩⟩
               ·rw [if_neg c37] at H
                exact absurd H (by simp)
              ·rw [if_neg c36] at H
               exact absurd H (by simp)
             ·rw [if_neg c35] at H
              exact absurd H (by simp)
            ·rw [if_neg c34] at H
             have c34b0:((bt (rdOf ByteArray.empty l0_4 x6_3) 0) == 43)=false:=beq_eq_false_iff_ne.mpr c34
             have c34b1:((bt (rdOf ByteArray.empty l0_4 x6_3) 0) != 43)=true:=bne_iff_ne.mpr c34
             have H':=Aside0.mk H
             clear H
             have hnb45:=NB326_327.out
             have hnc45:=NB327_326.out
             have hnb46:=NB326_328.out
             have hnc46:=NB328_326.out
             have hcz47_0:wr.cell? ⟨gb326,0,none⟩=some (.int .i64 a0_0):=(blk_cell BK326.out 0).trans rfl
             have hcz47_1:wr.cell? ⟨gb326,1,none⟩=some (.int .i64 a0_1):=(blk_cell BK326.out 1).trans rfl
             have hcz47_2:wr.cell? ⟨gb326,2,none⟩=some (.int .i64 a0_2):=(blk_cell BK326.out 2).trans rfl
             have hcz47_3:wr.cell? ⟨gb326,3,none⟩=some (.int .i64 a0_3):=(blk_cell BK326.out 3).trans rfl
             have hcz47_4:wr.cell? ⟨gb326,4,none⟩=some (.slice A0_4 l0_4.length c0_4):=(blk_cell BK326.out 4).trans rfl
             have hfz47_0:=blk_frozen BK326.out 0
             have hfz47_1:=blk_frozen BK326.out 1
             have hfz47_2:=blk_frozen BK326.out 2
             have hfz47_3:=blk_frozen BK326.out 3
             have hfz47_4:=blk_frozen BK326.out 4
             have p330:0≤(x6_3:Int):=of_decide_eq_true asm
             have q330:x6_3<(l0_4.length:Int):=of_decide_eq_true asm
             obtain ⟨ad330,e330,hx330_0⟩:=Kd.at_string HR0_4.out x6_3 p330 q330
             cases e330
             replace hx330_0:=pw_cell_below HB.out hx330_0
             replace p330:=eq_true p330
             replace q330:=eq_true q330
             have p33:0≤(0:Int):=(by omega)
             have q33:0<(rdOf ByteArray.empty l0_4 x6_3).size:=(by have:(0:Int)<((rdOf ByteArray.empty l0_4 x6_3).size:Int):=of_decide_eq_true asm;omega)
             have hx33:∀ h:0<(rdOf ByteArray.empty l0_4 x6_3).size,(((rdOf ByteArray.empty l0_4 x6_3)[0]'h).toNat:Int)=bt (rdOf ByteArray.empty l0_4 x6_3) 0:=bt_at (rdOf ByteArray.empty l0_4 x6_3) 0
             clear p33
             have qi33:(0<((rdOf ByteArray.empty l0_4 x6_3).size:Int))=True:=eq_true (of_decide_eq_true asm)
             replace q33:=eq_true q33
             go_wp2
             go_roundg k3
             case measure=>have:=HK1.out;have:=HJ10.out;have:=HK3.out;omega
             case rel=>exact ⟨(wrap64 (x6_3+1)),(x329004_3),(u329004),rx,H',⟨by have:=HK1.out;have:=HJ10.out;have:=HK3.out;omega⟩,⟨by (with_reducible repeat (first|apply Kd.R_alloc|apply Kd.R_drewN|apply Kd.R_drew));exact HO_329004.out⟩,⟨by (with_reducible repeat (first|refine blk_drewN ?_ _|refine blk_drew ?_|refine blk_alloc ?_ _));exact BK326.out⟩,⟨by (with_reducible repeat (first|refine blk_drewN ?_ _|refine blk_drew ?_|refine blk_alloc ?_ _));exact BK327.out⟩,⟨by (with_reducible repeat (first|refine blk_drewN ?_ _|refine blk_drew ?_|refine blk_alloc ?_ _));exact BK328.out⟩,⟨by repeat (first|(with_reducible first|exact HB.out|apply below_alloc|apply pw_below_drewN|apply below_drew1|refine below_set ?_ GE326.out|refine below_set ?_ GE327.out|refine below_set ?_ GE328.out)|exact HB.out)⟩⟩
           ·rw [if_neg c32] at H
            exact absurd H (by simp)
          ·rw [if_neg c31] at H
           exact absurd H (by simp)
         ·rw [if_neg c30] at H
          exact absurd H (by simp)
        ·rw [if_neg c29] at H
         have c29b0:decide (x6_3<x5_10)=false:=decide_eq_false c29
         clear c29
         have H':=Aside0.mk H
         clear H
         go_wp2
         go_loopg [7] k3 (fun kq v7 w'=>∃ (x7_4:Int) (x329004_4:List ByteArray) (u329004:Value),v7=.int .i64 x7_4∧Aside0 (r05_Turn.l3 kq x5_10 x7_4 a0_0 a0_1 a0_2 a0_3 l0_4 a0_2 a0_3 a0_0 a0_1 x329004_4=some (r1,r2,r3,r4,r5))∧Aside0 (kq≤k3)∧Aside0 (Kd.R Kd.string 9 w' w.heap.size (fun _=>True) u329004 x329004_4)∧Aside0 (w'.heap[gb326]?=some (.cells #[.int .i64 a0_0,.int .i64 a0_1,.int .i64 a0_2,.int .i64 a0_3,(.slice A0_4 l0_4.length c0_4)] 41 (0,0)))∧Aside0 (w'.heap[gb327]?=some (.cells #[.int .i64 0,.int .i64 0,.int .i64 0,.int .i64 0,(.slice none 0 0)] 41 (0,0)))∧Aside0 (w'.heap[gb328]?=some (.cells #[.int .i64 a0_2,.int .i64 a0_3,.int .i64 a0_0,.int .i64 a0_1,u329004] 41 (0,0)))∧Aside0 (Below w.heap.size w w'))
         case atStart=>exact ⟨(x4_1),(x329004_3),(u329004),rx,H',⟨Nat.le_refl _⟩,⟨by (with_reducible repeat (first|apply Kd.R_alloc|apply Kd.R_drewN|apply Kd.R_drew));exact HO_329004.out⟩,⟨by (with_reducible repeat (first|refine blk_drewN ?_ _|refine blk_drew ?_|refine blk_alloc ?_ _));exact BK326.out⟩,⟨by (with_reducible repeat (first|refine blk_drewN ?_ _|refine blk_drew ?_|refine blk_alloc ?_ _));exact BK327.out⟩,⟨by (with_reducible repeat (first|refine blk_drewN ?_ _|refine blk_drew ?_|refine blk_alloc ?_ _));exact BK328.out⟩,⟨by repeat (first|(with_reducible first|exact HB.out|apply below_alloc|apply pw_below_drewN|apply below_drew1|refine below_set ?_ GE326.out|refine below_set ?_ GE327.out|refine below_set ?_ GE328.out)|exact HB.out)⟩⟩
         case round =>
          clear H'
          try clear c1
          try clear p1
          try clear q1
          try clear hx1
          try clear qi1
          try clear c2
          try clear p2
          try clear c3
          try clear p3
          try clear q3
          try clear hx3
          try clear qi3
          try clear c4
          try clear p6
          try clear c7
          try clear c8
          try clear c10
          try clear c10b0
          try clear c12
          try clear c13
          try clear c15
          try clear c15b0
          try clear c16
          try clear c16b0
          try clear c17
          try clear c17b0
          try clear c17b1
          try clear p18
          try clear q18
          try clear hx18
          try clear qi18
          try clear c19
          try clear c19b0
          try clear c19b1
          try clear c20
          try clear c21
          try clear c23
          try clear c24
          try clear c26
          try clear c27
          try clear c28
          try clear c29
          try clear c29b0
          try clear c30
          try clear c30b0
          try clear c31
          try clear c31b0
          try clear c32
          try clear c32b0
          try clear c32b1
          try clear p32
          try clear q32
          try clear hx32
          try clear p33
          try clear q33
          try clear hx33
          try clear qi33
          try clear c34
          try clear c34b0
          try clear c34b1
          try clear c35
          try clear c35b0
          try clear c35b1
          try clear c36
          try clear c36b0
          try clear c36b1
          try clear c36b2
          try clear c37
          try clear c38
          try clear c39
          try clear c45
          try clear c46
          try clear hcz14_0
          try clear hcz14_1
          try clear hcz14_2
          try clear hcz14_3
          try clear hcz14_4
          try clear hcz22_0
          try clear hcz22_1
          try clear hcz22_2
          try clear hcz22_3
          try clear hcz22_4
          try clear hcz25_0
          try clear hcz25_1
          try clear hcz25_2
          try clear hcz25_3
          try clear hcz25_4
          try clear hcz28_0
          try clear hcz28_1
          try clear hcz28_2
          try clear hcz28_3
          try clear hcz28_4
          try clear hcz40_0
          try clear hcz40_1
          try clear hcz40_2
          try clear hcz40_3
          try clear hcz40_4
          try clear hcz47_0
          try clear hcz47_1
          try clear hcz47_2
          try clear hcz47_3
          try clear hcz47_4
          try clear hcz5_0
          try clear hcz5_1
          try clear hcz5_2
          try clear hcz5_3
          try clear hcz5_4
          try clear hcz9_0
          try clear hcz9_1
          try clear hcz9_2
          try clear hcz9_3
          try clear hcz9_4
          try clear hfz14_0
          try clear hfz14_1
          try clear hfz14_2
          try clear hfz14_3
          try clear hfz14_4
          try clear hfz22_0
          try clear hfz22_1
          try clear hfz22_2
          try clear hfz22_3
          try clear hfz22_4
          try clear hfz25_0
          try clear hfz25_1
          try clear hfz25_2
          try clear hfz25_3
          try clear hfz25_4
          try clear hfz28_0
          try clear hfz28_1
          try clear hfz28_2
          try clear hfz28_3
          try clear hfz28_4
          try clear hfz40_0
          try clear hfz40_1
          try clear hfz40_2
          try clear hfz40_3
          try clear hfz40_4
          try clear hfz47_0
          try clear hfz47_1
          try clear hfz47_2
          try clear hfz47_3
          try clear hfz47_4
          try clear hfz5_0
          try clear hfz5_1
          try clear hfz5_2
          try clear hfz5_3
          try clear hfz5_4
          try clear hfz9_0
          try clear hfz9_1
          try clear hfz9_2
          try clear hfz9_3
          try clear hfz9_4
          try clear hx329_0
          try clear hx330_0
          try clear hx331_0
          try clear p1
          try clear p18
          try clear p2
          try clear p3
          try clear p329
          try clear p33
          try clear p330
          try clear p331
          try clear p6
          try clear q1
          try clear q18
          try clear q3
          try clear q329
          try clear q33
          try clear q330
          try clear q331
          obtain ⟨x7_4,x329004_4,u329004,rfl,HA,HK4,HO_329004,BK326,BK327,BK328,HB⟩:=hrel
          cases gk with
          | zero=>exact absurd HA.out (by simp [r05_Turn.l3])
          | succ k4 =>
           have H:=HA.out
           clear HA
           simp only [r05_Turn.l3] at H
           by_cases c48:x7_4<x5_10
           ·rw [if_pos c48] at H
            have c48b0:decide (x7_4<x5_10)=true:=decide_eq_true c48
            clear c48
            by_cases c49:0≤x7_4
            ·rw [if_pos c49] at H
             have c49b0:decide (0≤x7_4)=true:=decide_eq_true c49
             clear c49
             by_cases c50:x7_4<(l0_4.length:Int)
             ·rw [if_pos c50] at H
              have c50b0:decide (x7_4<(l0_4.length:Int))=true:=decide_eq_true c50
              clear c50
              by_cases c51:0<((rdOf ByteArray.empty l0_4 x7_4).size:Int)
              ·rw [if_pos c51] at H
               have c51b0:decide (0<((rdOf ByteArray.empty l0_4 x7_4).size:Int))=true:=decide_eq_true c51
               have c51b1:decide (0<(rdOf ByteArray.empty l0_4 x7_4).size)=true:=decide_eq_true (by omega)
               clear c51
               by_cases c53:(bt (rdOf ByteArray.empty l0_4 x7_4) 0)=45
               ·rw [if_pos c53] at H
                have c53b0:((bt (rdOf ByteArray.empty l0_4 x7_4) 0) == 45)=true:=beq_iff_eq.mpr c53
                have c53b1:((bt (rdOf ByteArray.empty l0_4 x7_4) 0) != 45)=false:=bne_eq_false_iff_eq.mpr c53
                clear c53
                by_cases c54:1≤((rdOf ByteArray.empty l0_4 x7_4).size:Int)
                ·rw [if_pos c54] at H
                 have c54b0:=eq_true c54
                 have c54b1:decide (1≤((rdOf ByteArray.empty l0_4 x7_4).size:Int))=true:=decide_eq_true c54
                 clear c54
                 by_cases c55:1+((rdOf ByteArray.empty l0_4 x7_4).extract 1 (rdOf ByteArray.empty l0_4 x7_4).size).size≤9223372036854775807
                 ·rw [if_pos c55] at H
                  have c55x:(9223372036854775807<1+((rdOf ByteArray.empty l0_4 x7_4).size - 1))=False:=by have h_:=c55;rw [ByteArray.size_extract,Nat.min_self] at h_;exact eq_false (Nat.not_lt.2 h_)
                  have c55b0:=eq_true c55
                  have c55b1:decide (1+((rdOf ByteArray.empty l0_4 x7_4).extract 1 (rdOf ByteArray.empty l0_4 x7_4).size).size≤9223372036854775807)=true:=decide_eq_true c55
                  try have c55b2:(9223372036854775807<1+((rdOf ByteArray.empty l0_4 x7_4).extract 1 (rdOf ByteArray.empty l0_4 x7_4).size).size)=False:=eq_false (Nat.not_lt.2 c55)
                  by_cases c56:x329004_4.length<8796093022208
                  ·rw [if_pos c56] at H
                   have LMc56:=Aside0.mk c56
                   clear c56
                   obtain ⟨y337,hy337⟩:∃ y_:List ByteArray,y_=(x329004_4++[(⟨#[43]⟩:ByteArray)++((rdOf ByteArray.empty l0_4 x7_4).extract 1 (rdOf ByteArray.empty l0_4 x7_4).size)]):=⟨_,rfl⟩
                   replace H:(r05_Turn.l3 k4 x5_10 (wrap64 (x7_4+1)) a0_0 a0_1 a0_2 a0_3 l0_4 a0_2 a0_3 a0_0 a0_1 y337)=some (r1,r2,r3,r4,r5):=by first|(rw [hy337];with_reducible exact H)|(have H2_:=(Option.bind_some _ _).symm.trans H;rw [hy337];with_reducible exact H2_)|(have H2_:=(Option.bind_some _ _).symm.trans H;with_reducible exact H2_)|with_reducible exact H|(rw [hy337];exact H)|exact H
                   have Ny337:=Aside0.mk hy337
                   clear hy337
                   have H':=Aside0.mk H
                   clear H
                   have hnb57:=NB326_327.out
                   have hnc57:=NB327_326.out
                   have hnb58:=NB326_328.out
                   have hnc58:=NB328_326.out
                   have hcz59_0:wr.cell? ⟨gb326,0,none⟩=some (.int .i64 a0_0):=(blk_cell BK326.out 0).trans rfl
                   have hcz59_1:wr.cell? ⟨gb326,1,none⟩=some (.int .i64 a0_1):=(blk_cell BK326.out 1).trans rfl
                   have hcz59_2:wr.cell? ⟨gb326,2,none⟩=some (.int .i64 a0_2):=(blk_cell BK326.out 2).trans rfl
                   have hcz59_3:wr.cell? ⟨gb326,3,none⟩=some (.int .i64 a0_3):=(blk_cell BK326.out 3).trans rfl
                   have hcz59_4:wr.cell? ⟨gb326,4,none⟩=some (.slice A0_4 l0_4.length c0_4):=(blk_cell BK326.out 4).trans rfl
                   have hfz59_0:=blk_frozen BK326.out 0
                   have hfz59_1:=blk_frozen BK326.out 1
                   have hfz59_2:=blk_frozen BK326.out 2
                   have hfz59_3:=blk_frozen BK326.out 3
                   have hfz59_4:=blk_frozen BK326.out 4
                   have p335:0≤(x7_4:Int):=of_decide_eq_true asm
                   have q335:x7_4<(l0_4.length:Int):=of_decide_eq_true asm
                   obtain ⟨ad335,e335,hx335_0⟩:=Kd.at_string HR0_4.out x7_4 p335 q335
                   cases e335
                   replace hx335_0:=pw_cell_below HB.out hx335_0
                   replace p335:=eq_true p335
                   replace q335:=eq_true q335
                   have p52:0≤(0:Int):=(by omega)
                   have q52:0<(rdOf ByteArray.empty l0_4 x7_4).size:=(by have:(0:Int)<((rdOf ByteArray.empty l0_4 x7_4).size:Int):=of_decide_eq_true asm;omega)
                   have hx52:∀ h:0<(rdOf ByteArray.empty l0_4 x7_4).size,(((rdOf ByteArray.empty l0_4 x7_4)[0]'h).toNat:Int)=bt (rdOf ByteArray.empty l0_4 x7_4) 0:=bt_at (rdOf ByteArray.empty l0_4 x7_4) 0
                   clear p52
                   have qi52:(0<((rdOf ByteArray.empty l0_4 x7_4).size:Int))=True:=eq_true (of_decide_eq_true asm)
                   replace q52:=eq_true q52
                   try go_wp2
                   have n0_:=Aside0.mk (Kd.R_drew HO_329004.out)
                   have n1_:=Aside0.mk (blk_drew BK326.out)
                   have n2_:=Aside0.mk (blk_drew BK327.out)
                   have n3_:=Aside0.mk (blk_drew BK328.out)
                   have n4_:=Aside0.mk (below_drew1 HB.out)
                   clear HO_329004
                   clear BK326
                   clear BK327
                   clear BK328
                   clear HB
                   have HO_329004:=n0_
                   have BK326:=n1_
                   have BK327:=n2_
                   have BK328:=n3_
                   have HB:=n4_
                   clear n0_ n1_ n2_ n3_ n4_
                   have p336:0≤(x7_4:Int):=of_decide_eq_true asm
                   have q336:x7_4<(l0_4.length:Int):=of_decide_eq_true asm
                   obtain ⟨ad336,e336,hx336_0⟩:=Kd.at_string HR0_4.out x7_4 p336 q336
                   have hw336_0:=hx336_0
                   obtain rfl:ad335=ad336:=(by injection e336)
                   replace hx336_0:=pw_cell_below HB.out hx336_0
                   replace p336:=eq_true p336
                   replace q336:=eq_true q336
                   refine start_ (n:=13) (S:=fun w'=>w'.cell? ⟨gb328,0,none⟩=some (.int .i64 a0_2)∧w'.cell? ⟨gb328,1,none⟩=some (.int .i64 a0_3)∧w'.cell? ⟨gb328,2,none⟩=some (.int .i64 a0_0)∧w'.cell? ⟨gb328,3,none⟩=some (.int .i64 a0_1)∧w'.cell? ⟨gb328,4,none⟩=some (u329004)∧w'.cell? ⟨gb326,0,none⟩=some (.int .i64 a0_0)∧w'.cell? ⟨gb326,1,none⟩=some (.int .i64 a0_1)∧w'.cell? ⟨gb326,2,none⟩=some (.int .i64 a0_2)∧w'.cell? ⟨gb326,3,none⟩=some (.int .i64 a0_3)∧w'.cell? ⟨gb326,4,none⟩=some (.slice (some ad335) l0_4.length c0_4)∧w'.cell? (ad335.add (x7_4).toNat)=some (.string (rdOf ByteArray.empty l0_4 x7_4))) (ds:=[12]) #[false,false,false,false,false,false,false,false,false,false,false,false,false] (by kernel_rfl) rfl rfl ⟨(blk_cell BK328.out 0).trans rfl,(blk_cell BK328.out 1).trans rfl,(blk_cell BK328.out 2).trans rfl,(blk_cell BK328.out 3).trans rfl,(blk_cell BK328.out 4).trans rfl,(blk_cell BK326.out 0).trans rfl,(blk_cell BK326.out 1).trans rfl,(blk_cell BK326.out 2).trans rfl,(blk_cell BK326.out 3).trans rfl,(blk_cell BK326.out 4).trans rfl,((HB.out.cell (World.block_lt_of_cell? w _ hw336_0)).trans hw336_0)⟩ (fun hHeld=>?_);refine with_tabW r05_Turn.tab16 r05_Turn.bits16 (fun HT_ HW_=>?_)
                   generalize wr.drew=w60 at HO_329004 BK326 BK327 BK328 HB hx336_0 hHeld ⊢
                   refine pu 0 (some 77) rfl rfl ?_
                   refine pu 2 (some 79) rfl rfl ?_
                   refine pu 4 (some 81) rfl rfl ?_
                   refine take_ (i:=1) (N:=some 78) (v:=?_) (a':=?_) #[true,true,true,false,true,false,false,false,false,false,false,false,false] rfl rfl (take_ofW HT_.out HW_.out (by kernel_rfl)) (fun _ _ _ h=>h) (Or.inl ⟨by rfl,?_⟩) hHeld ?_ ?_
                   rotate_left
                   ·rintro w' ⟨s0,s1,s2,s3,s4,s5,s6,s7,s8,s9,s10⟩
                    go_simp
                    with_reducible rfl
                   rotate_left
                   ·simp only [Act.put,List.setIfInBounds_toArray,List.set_cons_zero,List.set_cons_succ,i64_w,i32_w]
                    rfl
                   refine take_ (i:=3) (N:=some 80) (v:=?_) (a':=?_) #[true,true,true,true,true,false,false,false,false,false,false,false,false] rfl rfl (take_ofW HT_.out HW_.out (by kernel_rfl)) (fun _ _ _ h=>h) (Or.inl ⟨by rfl,?_⟩) hHeld ?_ ?_
                   rotate_left
                   ·rintro w' ⟨s0,s1,s2,s3,s4,s5,s6,s7,s8,s9,s10⟩
                    go_simp
                    with_reducible rfl
                   rotate_left
                   ·simp only [Act.put,List.setIfInBounds_toArray,List.set_cons_zero,List.set_cons_succ,i64_w,i32_w]
                    rfl
                   refine pu 5 (some 82) rfl rfl ?_
                   refine take_ (i:=6) (N:=some 83) (v:=?_) (a':=?_) #[true,true,true,true,true,true,true,false,false,false,false,false,false] rfl rfl (take_ofW HT_.out HW_.out (by kernel_rfl)) (fun _ _ _ h=>h) (Or.inl ⟨by rfl,?_⟩) hHeld ?_ ?_
                   rotate_left
                   ·rintro w' ⟨s0,s1,s2,s3,s4,s5,s6,s7,s8,s9,s10⟩
                    go_simp
                    with_reducible rfl
                   rotate_left
                   ·simp only [Act.put,List.setIfInBounds_toArray,List.set_cons_zero,List.set_cons_succ,i64_w,i32_w]
                    rfl
                   refine pu 7 (some 84) rfl rfl ?_
                   refine pure_ (i:=8) (N:=some 85) (v:=?_) (a':=?_) #[true,true,true,true,true,true,true,true,true,false,false,false,false] rfl rfl (any_of HT_.out (by kernel_rfl)) (fun _ _ _ h=>h) (Or.inl ⟨by rfl,?_⟩) ?_ ?_
                   rotate_left
                   ·intro w'
                    go_simp
                    with_reducible rfl
                   rotate_left
                   ·simp only [Act.put,List.setIfInBounds_toArray,List.set_cons_zero,List.set_cons_succ,i64_w,i32_w]
                    rfl
                   refine one_ (i:=9) (N:=some 86) #[true,true,true,true,true,true,true,true,true,true,false,false,false] rfl rfl (one_of HT_.out (by kernel_rfl)) (by decide) (fun K hK=>?_)
                   refine value_ (w1:=?_) (v:=?_) (by rfl) rfl ?_ ?_
                   rotate_left 2
                   ·go_simp
                    constructor
                    ·rfl
                    ·rfl
                   refine hK.out _ _ ⟨(blk_cell (blk_alloc BK328.out _) 0).trans rfl,(blk_cell (blk_alloc BK328.out _) 1).trans rfl,(blk_cell (blk_alloc BK328.out _) 2).trans rfl,(blk_cell (blk_alloc BK328.out _) 3).trans rfl,(blk_cell (blk_alloc BK328.out _) 4).trans rfl,(blk_cell (blk_alloc BK326.out _) 0).trans rfl,(blk_cell (blk_alloc BK326.out _) 1).trans rfl,(blk_cell (blk_alloc BK326.out _) 2).trans rfl,(blk_cell (blk_alloc BK326.out _) 3).trans rfl,(blk_cell (blk_alloc BK326.out _) 4).trans rfl,(World.cell?_alloc_lt _ _ _ (World.block_lt_of_cell? _ _ (((HB.out.cell (World.block_lt_of_cell? w _ hw336_0)).trans hw336_0)))).trans (((HB.out.cell (World.block_lt_of_cell? w _ hw336_0)).trans hw336_0))⟩ (fun hHeld=>?_)
                   clear hK K
                   refine norm_ (a':=?_) ?_ ?_
                   rotate_left
                   ·show Act.put _ (some 86) _=_
                    simp only [Act.put,List.setIfInBounds_toArray,List.set_cons_zero,List.set_cons_succ,i64_w,i32_w]
                    rfl
                   refine one_ (i:=10) (N:=some 87) #[true,true,true,true,true,true,true,true,true,true,true,false,false] rfl rfl (one_of HT_.out (by kernel_rfl)) (by decide) (fun K hK=>?_)
                   refine Kd.R_append_step Kd.string (w0:=w) w.heap.size (by rfl) (.tmp 78) (.tmp 86) 22 9 (.string ⟨#[]⟩) 16 rfl Try.underlying22 info9 rfl (by decide) (by omega) u329004 x329004_4 ((⟨#[43]⟩:ByteArray)++((rdOf ByteArray.empty l0_4 x7_4).extract 1 (rdOf ByteArray.empty l0_4 x7_4).size)) [.string ((⟨#[43]⟩:ByteArray)++((rdOf ByteArray.empty l0_4 x7_4).extract 1 (rdOf ByteArray.empty l0_4 x7_4).size))] (fun _=>True) (fun _=>False) rfl rfl ?aP (fun _ hk=>hk.elim) ?aF ?aO ?aB ?aS ?aL ?_
                   (case aP=>exact rfl)
                   (case aB=>exact bel)
                   (case aF=>exact (fun _ _=>trivial))
                   (case aO=>exact (by (with_reducible repeat (first|apply Kd.R_alloc|apply Kd.R_drewN|apply Kd.R_drew));exact HO_329004.out))
                   (case aS=>exact (below_size bel))
                   (case aL=>have:=LMc56.out;omega)
                   intro v338 w61 ho hb hg hat
                   rw [← Ny337.out] at ho
                   have n0_:=Aside0.mk (blk_grown (g:=gb326) (o:=.cells #[.int .i64 a0_0,.int .i64 a0_1,.int .i64 a0_2,.int .i64 a0_3,.slice (some ad335) l0_4.length c0_4] 41 (0,0)) (by (with_reducible repeat (first|refine blk_drewN ?_ _|refine blk_drew ?_|refine blk_alloc ?_ _));exact BK326.out) hg (Kd.R_ne HO_329004.out BK326.out (by decide)))
                   have n1_:=Aside0.mk (blk_grown (g:=gb327) (o:=.cells #[.int .i64 0,.int .i64 0,.int .i64 0,.int .i64 0,.slice none 0 0] 41 (0,0)) (by (with_reducible repeat (first|refine blk_drewN ?_ _|refine blk_drew ?_|refine blk_alloc ?_ _));exact BK327.out) hg (Kd.R_ne HO_329004.out BK327.out (by decide)))
                   have n2_:=Aside0.mk (blk_grown (g:=gb328) (o:=.cells #[.int .i64 a0_2,.int .i64 a0_3,.int .i64 a0_0,.int .i64 a0_1,u329004] 41 (0,0)) (by (with_reducible repeat (first|refine blk_drewN ?_ _|refine blk_drew ?_|refine blk_alloc ?_ _));exact BK328.out) hg (Kd.R_ne HO_329004.out BK328.out (by decide)))
                   have n3_:=Aside0.mk (hb)
                   have n4_:=Aside0.mk (ho)
                   clear BK326
                   clear BK327
                   clear BK328
                   clear HB
                   clear HO_329004
                   have BK326:=n0_
                   have BK327:=n1_
                   have BK328:=n2_
                   have HB:=n3_
                   have HO339:=n4_
                   clear n0_ n1_ n2_ n3_ n4_
                   clear ho hb hg hat
                   obtain ⟨Ao62,co62,eo62⟩:=Kd.R_slice HO339.out
                   (first|subst eo62|(injection eo62 with f1_ f2_ f3_;have f4_:=f1_.symm;have f5_:=f3_.symm;clear f1_ f2_ f3_;subst f4_;subst f5_))
                   refine hK.out _ _ ⟨(blk_cell BK328.out 0).trans rfl,(blk_cell BK328.out 1).trans rfl,(blk_cell BK328.out 2).trans rfl,(blk_cell BK328.out 3).trans rfl,(blk_cell BK328.out 4).trans rfl,(blk_cell BK326.out 0).trans rfl,(blk_cell BK326.out 1).trans rfl,(blk_cell BK326.out 2).trans rfl,(blk_cell BK326.out 3).trans rfl,(blk_cell BK326.out 4).trans rfl,((HB.out.cell (World.block_lt_of_cell? w _ hw336_0)).trans hw336_0)⟩ (fun hHeld=>?_)
                   clear hK K
                   refine norm_ (a':=?_) ?_ ?_
                   rotate_left
                   ·show Act.put _ (some 87) _=_
                    simp only [Act.put,List.setIfInBounds_toArray,List.set_cons_zero,List.set_cons_succ,i64_w,i32_w]
                    rfl
                   refine pure_ (i:=11) (N:=some 88) (v:=?_) (a':=?_) #[true,true,true,true,true,true,true,true,true,true,true,true,false] rfl rfl (any_of HT_.out (by kernel_rfl)) (fun _ _ _ h=>h) (Or.inl ⟨by rfl,?_⟩) ?_ ?_
                   rotate_left
                   ·intro w'
                    go_simp
                    with_reducible rfl
                   rotate_left
                   ·simp only [Act.put,List.setIfInBounds_toArray,List.set_cons_zero,List.set_cons_succ,i64_w,i32_w]
                    rfl
                   refine last_ (i:=12) (N:=none) #[true,true,true,true,true,true,true,true,true,true,true,true,true] rfl rfl (one_of HT_.out (by kernel_rfl)) (by decide) (fun K hK=>?_)
                   have hs63:w61.cell? ⟨gb328,4,none⟩=some (u329004):=(blk_cell BK328.out 4).trans rfl
                   have hfs63:=blk_frozen BK328.out 4
                   have hns63_0:=NB326_328.out
                   have hns63_1:=NB327_328.out
                   have hms63_0:=NB328_326.out
                   have hms63_1:=NB328_327.out
                   refine skip_ (w1:=?_) (by rfl) rfl ?_ ?_
                   rotate_left
                   ·go_simp
                    rfl
                   refine hK.out _ _ ?_
                   clear hK K
                   refine done_ (done_of HT_.out (by kernel_rfl)) ?_
                   try go_wp2
                   go_roundg k4
                   case measure=>have:=HK1.out;have:=HJ10.out;have:=HK3.out;have:=HK4.out;omega
                   case rel=>exact ⟨(wrap64 (x7_4+1)),(y337),(.slice Ao62 y337.length co62),rx,H',⟨by have:=HK1.out;have:=HJ10.out;have:=HK3.out;have:=HK4.out;omega⟩,⟨by (with_reducible repeat (first|apply Kd.R_alloc|apply Kd.R_drewN|apply Kd.R_drew));exact Kd.R_mono (Kd.R_far (p:=⟨gb328,4,none⟩) (Kd.R_types HO339.out BK328.out (by decide)) (fun _ hk=>hk.2) (.slice Ao62 y337.length co62)) (fun _ hk=>trivial)⟩,⟨by (with_reducible repeat (first|refine blk_drewN ?_ _|refine blk_drew ?_|refine blk_alloc ?_ _));refine blk_far ?_ NB326_328.out _;(with_reducible repeat (first|refine blk_drewN ?_ _|refine blk_drew ?_|refine blk_alloc ?_ _));exact BK326.out⟩,⟨by (with_reducible repeat (first|refine blk_drewN ?_ _|refine blk_drew ?_|refine blk_alloc ?_ _));refine blk_far ?_ NB327_328.out _;(with_reducible repeat (first|refine blk_drewN ?_ _|refine blk_drew ?_|refine blk_alloc ?_ _));exact BK327.out⟩,⟨by (with_reducible repeat (first|refine blk_drewN ?_ _|refine blk_drew ?_|refine blk_alloc ?_ _));refine blk_put (cs:=#[.int .i64 a0_2,.int .i64 a0_3,.int .i64 a0_0,.int .i64 a0_1,u329004]) ?_ 4 _ rfl;(with_reducible repeat (first|refine blk_drewN ?_ _|refine blk_drew ?_|refine blk_alloc ?_ _));exact BK328.out⟩,⟨by repeat (first|(with_reducible first|exact HB.out|apply below_alloc|apply pw_below_drewN|apply below_drew1|refine below_set ?_ GE326.out|refine below_set ?_ GE327.out|refine below_set ?_ GE328.out)|exact HB.out)⟩⟩
                  ·rw [if_neg c56] at H
                   exact absurd H (by simp)
                 ·rw [if_neg c55] at H
                  exact absurd H (by simp)
                ·rw [if_neg c54] at H
                 exact absurd H (by simp)
               ·rw [if_neg c53] at H
                have c53b0:((bt (rdOf ByteArray.empty l0_4 x7_4) 0) == 45)=false:=beq_eq_false_iff_ne.mpr c53
                have c53b1:((bt (rdOf ByteArray.empty l0_4 x7_4) 0) != 45)=true:=bne_iff_ne.mpr c53
                have H':=Aside0.mk H
                clear H
                have hnb64:=NB326_327.out
                have hnc64:=NB327_326.out
                have hnb65:=NB326_328.out
                have hnc65:=NB328_326.out
                have hcz66_0:wr.cell? ⟨gb326,0,none⟩=some (.int .i64 a0_0):=(blk_cell BK326.out 0).trans rfl
                have hcz66_1:wr.cell? ⟨gb326,1,none⟩=some (.int .i64 a0_1):=(blk_cell BK326.out 1).trans rfl
                have hcz66_2:wr.cell? ⟨gb326,2,none⟩=some (.int .i64 a0_2):=(blk_cell BK326.out 2).trans rfl
                have hcz66_3:wr.cell? ⟨gb326,3,none⟩=some (.int .i64 a0_3):=(blk_cell BK326.out 3).trans rfl
                have hcz66_4:wr.cell? ⟨gb326,4,none⟩=some (.slice A0_4 l0_4.length c0_4):=(blk_cell BK326.out 4).trans rfl
                have hfz66_0:=blk_frozen BK326.out 0
                have hfz66_1:=blk_frozen BK326.out 1
                have hfz66_2:=blk_frozen BK326.out 2
                have hfz66_3:=blk_frozen BK326.out 3
                have hfz66_4:=blk_frozen BK326.out 4
                have p335:0≤(x7_4:Int):=of_decide_eq_true asm
                have q335:x7_4<(l0_4.length:Int):=of_decide_eq_true asm
                obtain ⟨ad335,e335,hx335_0⟩:=Kd.at_string HR0_4.out x7_4 p335 q335
                cases e335
                replace hx335_0:=pw_cell_below HB.out hx335_0
                replace p335:=eq_true p335
                replace q335:=eq_true q335
                have p52:0≤(0:Int):=(by omega)
                have q52:0<(rdOf ByteArray.empty l0_4 x7_4).size:=(by have:(0:Int)<((rdOf ByteArray.empty l0_4 x7_4).size:Int):=of_decide_eq_true asm;omega)
                have hx52:∀ h:0<(rdOf ByteArray.empty l0_4 x7_4).size,(((rdOf ByteArray.empty l0_4 x7_4)[0]'h).toNat:Int)=bt (rdOf ByteArray.empty l0_4 x7_4) 0:=bt_at (rdOf ByteArray.empty l0_4 x7_4) 0
                clear p52
                have qi52:(0<((rdOf ByteArray.empty l0_4 x7_4).size:Int))=True:=eq_true (of_decide_eq_true asm)
                replace q52:=eq_true q52
                go_wp2
                go_roundg k4
                case measure=>have:=HK1.out;have:=HJ10.out;have:=HK3.out;have:=HK4.out;omega
                case rel=>exact ⟨(wrap64 (x7_4+1)),(x329004_4),(u329004),rx,H',⟨by have:=HK1.out;have:=HJ10.out;have:=HK3.out;have:=HK4.out;omega⟩,⟨by (with_reducible repeat (first|apply Kd.R_alloc|apply Kd.R_drewN|apply Kd.R_drew));exact HO_329004.out⟩,⟨by (with_reducible repeat (first|refine blk_drewN ?_ _|refine blk_drew ?_|refine blk_alloc ?_ _));exact BK326.out⟩,⟨by (with_reducible repeat (first|refine blk_drewN ?_ _|refine blk_drew ?_|refine blk_alloc ?_ _));exact BK327.out⟩,⟨by (with_reducible repeat (first|refine blk_drewN ?_ _|refine blk_drew ?_|refine blk_alloc ?_ _));exact BK328.out⟩,⟨by repeat (first|(with_reducible first|exact HB.out|apply below_alloc|apply pw_below_drewN|apply below_drew1|refine below_set ?_ GE326.out|refine below_set ?_ GE327.out|refine below_set ?_ GE328.out)|exact HB.out)⟩⟩
              ·rw [if_neg c51] at H
               exact absurd H (by simp)
             ·rw [if_neg c50] at H
              exact absurd H (by simp)
            ·rw [if_neg c49] at H
             exact absurd H (by simp)
           ·rw [if_neg c48] at H
            have c48b0:decide (x7_4<x5_10)=false:=decide_eq_false c48
            clear c48
            by_cases c67:x5_10<(l0_4.length:Int)
            ·rw [if_pos c67] at H
             have c67b0:decide (x5_10<(l0_4.length:Int))=true:=decide_eq_true c67
             clear c67
             by_cases c68:0≤x5_10
             ·rw [if_pos c68] at H
              have c68b0:decide (0≤x5_10)=true:=decide_eq_true c68
              clear c68
              by_cases c69:x329004_4.length<8796093022208
              ·rw [if_pos c69] at H
               have LMc69:=Aside0.mk c69
               clear c69
               obtain ⟨y341,hy341⟩:∃ y_:List ByteArray,y_=(x329004_4++[rdOf ByteArray.empty l0_4 x5_10]):=⟨_,rfl⟩
               replace H:(r05_Turn.l0 k4 (wrap64 (x5_10+1)) a0_0 a0_1 a0_2 a0_3 l0_4 a0_2 a0_3 a0_0 a0_1 y341)=some (r1,r2,r3,r4,r5):=by first|(rw [hy341];with_reducible exact H)|(have H2_:=(Option.bind_some _ _).symm.trans H;rw [hy341];with_reducible exact H2_)|(have H2_:=(Option.bind_some _ _).symm.trans H;with_reducible exact H2_)|with_reducible exact H|(rw [hy341];exact H)|exact H
               have Ny341:=Aside0.mk hy341
               clear hy341
               have H':=Aside0.mk H
               clear H
               have hnb70:=NB326_327.out
               have hnc70:=NB327_326.out
               have hnb71:=NB326_328.out
               have hnc71:=NB328_326.out
               have hcz72_0:wr.cell? ⟨gb326,0,none⟩=some (.int .i64 a0_0):=(blk_cell BK326.out 0).trans rfl
               have hcz72_1:wr.cell? ⟨gb326,1,none⟩=some (.int .i64 a0_1):=(blk_cell BK326.out 1).trans rfl
               have hcz72_2:wr.cell? ⟨gb326,2,none⟩=some (.int .i64 a0_2):=(blk_cell BK326.out 2).trans rfl
               have hcz72_3:wr.cell? ⟨gb326,3,none⟩=some (.int .i64 a0_3):=(blk_cell BK326.out 3).trans rfl
               have hcz72_4:wr.cell? ⟨gb326,4,none⟩=some (.slice A0_4 l0_4.length c0_4):=(blk_cell BK326.out 4).trans rfl
               have hfz72_0:=blk_frozen BK326.out 0
               have hfz72_1:=blk_frozen BK326.out 1
               have hfz72_2:=blk_frozen BK326.out 2
               have hfz72_3:=blk_frozen BK326.out 3
               have hfz72_4:=blk_frozen BK326.out 4
               try go_wp2
               have n0_:=Aside0.mk (Kd.R_drew HO_329004.out)
               have n1_:=Aside0.mk (blk_drew BK326.out)
               have n2_:=Aside0.mk (blk_drew BK327.out)
               have n3_:=Aside0.mk (blk_drew BK328.out)
               have n4_:=Aside0.mk (below_drew1 HB.out)
               clear HO_329004
               clear BK326
               clear BK327
               clear BK328
               clear HB
               have HO_329004:=n0_
               have BK326:=n1_
               have BK327:=n2_
               have BK328:=n3_
               have HB:=n4_
               clear n0_ n1_ n2_ n3_ n4_
               have p340:0≤(x5_10:Int):=of_decide_eq_true asm
               have q340:x5_10<(l0_4.length:Int):=of_decide_eq_true asm
               obtain ⟨ad340,e340,hx340_0⟩:=Kd.at_string HR0_4.out x5_10 p340 q340
               have hw340_0:=hx340_0
               cases e340
               replace hx340_0:=pw_cell_below HB.out hx340_0
               replace p340:=eq_true p340
               replace q340:=eq_true q340
               refine start_ (n:=11) (S:=fun w'=>w'.cell? ⟨gb328,0,none⟩=some (.int .i64 a0_2)∧w'.cell? ⟨gb328,1,none⟩=some (.int .i64 a0_3)∧w'.cell? ⟨gb328,2,none⟩=some (.int .i64 a0_0)∧w'.cell? ⟨gb328,3,none⟩=some (.int .i64 a0_1)∧w'.cell? ⟨gb328,4,none⟩=some (u329004)∧w'.cell? ⟨gb326,0,none⟩=some (.int .i64 a0_0)∧w'.cell? ⟨gb326,1,none⟩=some (.int .i64 a0_1)∧w'.cell? ⟨gb326,2,none⟩=some (.int .i64 a0_2)∧w'.cell? ⟨gb326,3,none⟩=some (.int .i64 a0_3)∧w'.cell? ⟨gb326,4,none⟩=some (.slice (some ad340) l0_4.length c0_4)∧w'.cell? (ad340.add (x5_10).toNat)=some (.string (rdOf ByteArray.empty l0_4 x5_10))) (ds:=[10]) #[false,false,false,false,false,false,false,false,false,false,false] (by kernel_rfl) rfl rfl ⟨(blk_cell BK328.out 0).trans rfl,(blk_cell BK328.out 1).trans rfl,(blk_cell BK328.out 2).trans rfl,(blk_cell BK328.out 3).trans rfl,(blk_cell BK328.out 4).trans rfl,(blk_cell BK326.out 0).trans rfl,(blk_cell BK326.out 1).trans rfl,(blk_cell BK326.out 2).trans rfl,(blk_cell BK326.out 3).trans rfl,(blk_cell BK326.out 4).trans rfl,((HB.out.cell (World.block_lt_of_cell? w _ hw340_0)).trans hw340_0)⟩ (fun hHeld=>?_);refine with_tabW r05_Turn.tab18 r05_Turn.bits18 (fun HT_ HW_=>?_)
               generalize wr.drew=w73 at HO_329004 BK326 BK327 BK328 HB hx340_0 hHeld ⊢
               refine pu 0 (some 94) rfl rfl ?_
               refine pu 2 (some 96) rfl rfl ?_
               refine pu 4 (some 98) rfl rfl ?_
               refine take_ (i:=1) (N:=some 95) (v:=?_) (a':=?_) #[true,true,true,false,true,false,false,false,false,false,false] rfl rfl (take_ofW HT_.out HW_.out (by kernel_rfl)) (fun _ _ _ h=>h) (Or.inl ⟨by rfl,?_⟩) hHeld ?_ ?_
               rotate_left
               ·rintro w' ⟨s0,s1,s2,s3,s4,s5,s6,s7,s8,s9,s10⟩
                go_simp
                with_reducible rfl
               rotate_left
               ·simp only [Act.put,List.setIfInBounds_toArray,List.set_cons_zero,List.set_cons_succ,i64_w,i32_w]
                rfl
               refine take_ (i:=3) (N:=some 97) (v:=?_) (a':=?_) #[true,true,true,true,true,false,false,false,false,false,false] rfl rfl (take_ofW HT_.out HW_.out (by kernel_rfl)) (fun _ _ _ h=>h) (Or.inl ⟨by rfl,?_⟩) hHeld ?_ ?_
               rotate_left
               ·rintro w' ⟨s0,s1,s2,s3,s4,s5,s6,s7,s8,s9,s10⟩
                go_simp
                with_reducible rfl
               rotate_left
               ·simp only [Act.put,List.setIfInBounds_toArray,List.set_cons_zero,List.set_cons_succ,i64_w,i32_w]
                rfl
               refine pu 5 (some 99) rfl rfl ?_
               refine take_ (i:=6) (N:=some 100) (v:=?_) (a':=?_) #[true,true,true,true,true,true,true,false,false,false,false] rfl rfl (take_ofW HT_.out HW_.out (by kernel_rfl)) (fun _ _ _ h=>h) (Or.inl ⟨by rfl,?_⟩) hHeld ?_ ?_
               rotate_left
               ·rintro w' ⟨s0,s1,s2,s3,s4,s5,s6,s7,s8,s9,s10⟩
                go_simp
                with_reducible rfl
               rotate_left
               ·simp only [Act.put,List.setIfInBounds_toArray,List.set_cons_zero,List.set_cons_succ,i64_w,i32_w]
                rfl
               refine one_ (i:=7) (N:=some 101) #[true,true,true,true,true,true,true,true,false,false,false] rfl rfl (one_of HT_.out (by kernel_rfl)) (by decide) (fun K hK=>?_)
               refine value_ (w1:=?_) (v:=?_) (by rfl) rfl ?_ ?_
               rotate_left 2
               ·go_simp
                constructor
                ·rfl
                ·rfl
               refine hK.out _ _ ⟨(blk_cell (blk_alloc BK328.out _) 0).trans rfl,(blk_cell (blk_alloc BK328.out _) 1).trans rfl,(blk_cell (blk_alloc BK328.out _) 2).trans rfl,(blk_cell (blk_alloc BK328.out _) 3).trans rfl,(blk_cell (blk_alloc BK328.out _) 4).trans rfl,(blk_cell (blk_alloc BK326.out _) 0).trans rfl,(blk_cell (blk_alloc BK326.out _) 1).trans rfl,(blk_cell (blk_alloc BK326.out _) 2).trans rfl,(blk_cell (blk_alloc BK326.out _) 3).trans rfl,(blk_cell (blk_alloc BK326.out _) 4).trans rfl,(World.cell?_alloc_lt _ _ _ (World.block_lt_of_cell? _ _ (((HB.out.cell (World.block_lt_of_cell? w _ hw340_0)).trans hw340_0)))).trans (((HB.out.cell (World.block_lt_of_cell? w _ hw340_0)).trans hw340_0))⟩ (fun hHeld=>?_)
               clear hK K
               refine norm_ (a':=?_) ?_ ?_
               rotate_left
               ·show Act.put _ (some 101) _=_
                simp only [Act.put,List.setIfInBounds_toArray,List.set_cons_zero,List.set_cons_succ,i64_w,i32_w]
                rfl
               refine one_ (i:=8) (N:=some 102) #[true,true,true,true,true,true,true,true,true,false,false] rfl rfl (one_of HT_.out (by kernel_rfl)) (by decide) (fun K hK=>?_)
               refine Kd.R_append_step Kd.string (w0:=w) w.heap.size (by rfl) (.tmp 95) (.tmp 101) 22 9 (.string ⟨#[]⟩) 16 rfl Try.underlying22 info9 rfl (by decide) (by omega) u329004 x329004_4 (rdOf ByteArray.empty l0_4 x5_10) [.string (rdOf ByteArray.empty l0_4 x5_10)] (fun _=>True) (fun _=>False) rfl rfl ?aP (fun _ hk=>hk.elim) ?aF ?aO ?aB ?aS ?aL ?_
               (case aP=>exact rfl)
               (case aB=>exact bel)
               (case aF=>exact (fun _ _=>trivial))
               (case aO=>exact (by (with_reducible repeat (first|apply Kd.R_alloc|apply Kd.R_drewN|apply Kd.R_drew));exact HO_329004.out))
               (case aS=>exact (below_size bel))
               (case aL=>have:=LMc69.out;omega)
               intro v342 w74 ho hb hg hat
               rw [← Ny341.out] at ho
               have n0_:=Aside0.mk (blk_grown (g:=gb326) (o:=.cells #[.int .i64 a0_0,.int .i64 a0_1,.int .i64 a0_2,.int .i64 a0_3,.slice (some ad340) l0_4.length c0_4] 41 (0,0)) (by (with_reducible repeat (first|refine blk_drewN ?_ _|refine blk_drew ?_|refine blk_alloc ?_ _));exact BK326.out) hg (Kd.R_ne HO_329004.out BK326.out (by decide)))
               have n1_:=Aside0.mk (blk_grown (g:=gb327) (o:=.cells #[.int .i64 0,.int .i64 0,.int .i64 0,.int .i64 0,.slice none 0 0] 41 (0,0)) (by (with_reducible repeat (first|refine blk_drewN ?_ _|refine blk_drew ?_|refine blk_alloc ?_ _));exact BK327.out) hg (Kd.R_ne HO_329004.out BK327.out (by decide)))
               have n2_:=Aside0.mk (blk_grown (g:=gb328) (o:=.cells #[.int .i64 a0_2,.int .i64 a0_3,.int .i64 a0_0,.int .i64 a0_1,u329004] 41 (0,0)) (by (with_reducible repeat (first|refine blk_drewN ?_ _|refine blk_drew ?_|refine blk_alloc ?_ _));exact BK328.out) hg (Kd.R_ne HO_329004.out BK328.out (by decide)))
               have n3_:=Aside0.mk (hb)
               have n4_:=Aside0.mk (ho)
               clear BK326
               clear BK327
               clear BK328
               clear HB
               clear HO_329004
               have BK326:=n0_
               have BK327:=n1_
               have BK328:=n2_
               have HB:=n3_
               have HO343:=n4_
               clear n0_ n1_ n2_ n3_ n4_
               clear ho hb hg hat
               obtain ⟨Ao75,co75,eo75⟩:=Kd.R_slice HO343.out
               (first|subst eo75|(injection eo75 with f1_ f2_ f3_;have f4_:=f1_.symm;have f5_:=f3_.symm;clear f1_ f2_ f3_;subst f4_;subst f5_))
               refine hK.out _ _ ⟨(blk_cell BK328.out 0).trans rfl,(blk_cell BK328.out 1).trans rfl,(blk_cell BK328.out 2).trans rfl,(blk_cell BK328.out 3).trans rfl,(blk_cell BK328.out 4).trans rfl,(blk_cell BK326.out 0).trans rfl,(blk_cell BK326.out 1).trans rfl,(blk_cell BK326.out 2).trans rfl,(blk_cell BK326.out 3).trans rfl,(blk_cell BK326.out 4).trans rfl,((HB.out.cell (World.block_lt_of_cell? w _ hw340_0)).trans hw340_0)⟩ (fun hHeld=>?_)
               clear hK K
               refine norm_ (a':=?_) ?_ ?_
               rotate_left
               ·show Act.put _ (some 102) _=_
                simp only [Act.put,List.setIfInBounds_toArray,List.set_cons_zero,List.set_cons_succ,i64_w,i32_w]
                rfl
               refine pure_ (i:=9) (N:=some 103) (v:=?_) (a':=?_) #[true,true,true,true,true,true,true,true,true,true,false] rfl rfl (any_of HT_.out (by kernel_rfl)) (fun _ _ _ h=>h) (Or.inl ⟨by rfl,?_⟩) ?_ ?_
               rotate_left
               ·intro w'
                go_simp
                with_reducible rfl
               rotate_left
               ·simp only [Act.put,List.setIfInBounds_toArray,List.set_cons_zero,List.set_cons_succ,i64_w,i32_w]
                rfl
               refine last_ (i:=10) (N:=none) #[true,true,true,true,true,true,true,true,true,true,true] rfl rfl (one_of HT_.out (by kernel_rfl)) (by decide) (fun K hK=>?_)
               have hs76:w74.cell? ⟨gb328,4,none⟩=some (u329004):=(blk_cell BK328.out 4).trans rfl
               have hfs76:=blk_frozen BK328.out 4
               have hns76_0:=NB326_328.out
               have hns76_1:=NB327_328.out
               have hms76_0:=NB328_326.out
               have hms76_1:=NB328_327.out
               refine skip_ (w1:=?_) (by rfl) rfl ?_ ?_
               rotate_left
               ·go_simp
                rfl
               refine hK.out _ _ ?_
               clear hK K
               refine done_ (done_of HT_.out (by kernel_rfl)) ?_
               try go_wp2
               go_roundg k4
               case measure=>have:=HK1.out;have:=HJ10.out;have:=HK3.out;have:=HK4.out;omega
               case rel=>exact ⟨(wrap64 (x5_10+1)),(y341),(.slice Ao75 y341.length co75),rx,H',⟨by have:=HK1.out;have:=HJ10.out;have:=HK3.out;have:=HK4.out;omega⟩,⟨by (with_reducible repeat (first|apply Kd.R_alloc|apply Kd.R_drewN|apply Kd.R_drew));exact Kd.R_mono (Kd.R_far (p:=⟨gb328,4,none⟩) (Kd.R_types HO343.out BK328.out (by decide)) (fun _ hk=>hk.2) (.slice Ao75 y341.length co75)) (fun _ hk=>trivial)⟩,⟨by (with_reducible repeat (first|refine blk_drewN ?_ _|refine blk_drew ?_|refine blk_alloc ?_ _));refine blk_far ?_ NB326_328.out _;(with_reducible repeat (first|refine blk_drewN ?_ _|refine blk_drew ?_|refine blk_alloc ?_ _));exact BK326.out⟩,⟨by (with_reducible repeat (first|refine blk_drewN ?_ _|refine blk_drew ?_|refine blk_alloc ?_ _));refine blk_far ?_ NB327_328.out _;(with_reducible repeat (first|refine blk_drewN ?_ _|refine blk_drew ?_|refine blk_alloc ?_ _));exact BK327.out⟩,⟨by (with_reducible repeat (first|refine blk_drewN ?_ _|refine blk_drew ?_|refine blk_alloc ?_ _));refine blk_put (cs:=#[.int .i64 a0_2,.int .i64 a0_3,.int .i64 a0_0,.int .i64 a0_1,u329004]) ?_ 4 _ rfl;(with_reducible repeat (first|refine blk_drewN ?_ _|refine blk_drew ?_|refine blk_alloc ?_ _));exact BK328.out⟩,⟨by repeat (first|(with_reducible first|exact HB.out|apply below_alloc|apply pw_below_drewN|apply below_drew1|refine below_set ?_ GE326.out|refine below_set ?_ GE327.out|refine below_set ?_ GE328.out)|exact HB.out)⟩⟩
              ·rw [if_neg c69] at H
               exact absurd H (by simp)
             ·rw [if_neg c68] at H
              exact absurd H (by simp)
            ·rw [if_neg c67] at H
             have c67b0:decide (x5_10<(l0_4.length:Int))=false:=decide_eq_false c67
             clear c67
             have H':=Aside0.mk H
             clear H
             have hnb77:=NB326_327.out
             have hnc77:=NB327_326.out
             have hnb78:=NB326_328.out
             have hnc78:=NB328_326.out
             have hcz79_0:wr.cell? ⟨gb326,0,none⟩=some (.int .i64 a0_0):=(blk_cell BK326.out 0).trans rfl
             have hcz79_1:wr.cell? ⟨gb326,1,none⟩=some (.int .i64 a0_1):=(blk_cell BK326.out 1).trans rfl
             have hcz79_2:wr.cell? ⟨gb326,2,none⟩=some (.int .i64 a0_2):=(blk_cell BK326.out 2).trans rfl
             have hcz79_3:wr.cell? ⟨gb326,3,none⟩=some (.int .i64 a0_3):=(blk_cell BK326.out 3).trans rfl
             have hcz79_4:wr.cell? ⟨gb326,4,none⟩=some (.slice A0_4 l0_4.length c0_4):=(blk_cell BK326.out 4).trans rfl
             have hfz79_0:=blk_frozen BK326.out 0
             have hfz79_1:=blk_frozen BK326.out 1
             have hfz79_2:=blk_frozen BK326.out 2
             have hfz79_3:=blk_frozen BK326.out 3
             have hfz79_4:=blk_frozen BK326.out 4
             go_wp2
             go_roundg k4
             case measure=>have:=HK1.out;have:=HJ10.out;have:=HK3.out;have:=HK4.out;omega
             case rel=>exact ⟨(wrap64 (x5_10+1)),(x329004_4),(u329004),rx,H',⟨by have:=HK1.out;have:=HJ10.out;have:=HK3.out;have:=HK4.out;omega⟩,⟨by (with_reducible repeat (first|apply Kd.R_alloc|apply Kd.R_drewN|apply Kd.R_drew));exact HO_329004.out⟩,⟨by (with_reducible repeat (first|refine blk_drewN ?_ _|refine blk_drew ?_|refine blk_alloc ?_ _));exact BK326.out⟩,⟨by (with_reducible repeat (first|refine blk_drewN ?_ _|refine blk_drew ?_|refine blk_alloc ?_ _));exact BK327.out⟩,⟨by (with_reducible repeat (first|refine blk_drewN ?_ _|refine blk_drew ?_|refine blk_alloc ?_ _));exact BK328.out⟩,⟨by repeat (first|(with_reducible first|exact HB.out|apply below_alloc|apply pw_below_drewN|apply below_drew1|refine below_set ?_ GE326.out|refine below_set ?_ GE327.out|refine below_set ?_ GE328.out)|exact HB.out)⟩⟩
   ·rw [if_neg c10] at H
    have c10b0:decide (x4_1<(l0_4.length:Int))=false:=decide_eq_false c10
    clear c10
    simp only [Option.some.injEq,Prod.mk.injEq] at H
    obtain ⟨rfl,rfl,rfl,rfl,rfl⟩:=H
    have hnb80:=NB326_327.out
    have hnc80:=NB327_326.out
    have hnb81:=NB326_328.out
    have hnc81:=NB328_326.out
    have hcz82_0:wr.cell? ⟨gb326,0,none⟩=some (.int .i64 a0_0):=(blk_cell BK326.out 0).trans rfl
    have hcz82_1:wr.cell? ⟨gb326,1,none⟩=some (.int .i64 a0_1):=(blk_cell BK326.out 1).trans rfl
    have hcz82_2:wr.cell? ⟨gb326,2,none⟩=some (.int .i64 a0_2):=(blk_cell BK326.out 2).trans rfl
    have hcz82_3:wr.cell? ⟨gb326,3,none⟩=some (.int .i64 a0_3):=(blk_cell BK326.out 3).trans rfl
    have hcz82_4:wr.cell? ⟨gb326,4,none⟩=some (.slice A0_4 l0_4.length c0_4):=(blk_cell BK326.out 4).trans rfl
    have hfz82_0:=blk_frozen BK326.out 0
    have hfz82_1:=blk_frozen BK326.out 1
    have hfz82_2:=blk_frozen BK326.out 2
    have hfz82_3:=blk_frozen BK326.out 3
    have hfz82_4:=blk_frozen BK326.out 4
    have hnb83:=NB328_327.out
    have hnc83:=NB327_328.out
    have hcz84_0:wr.cell? ⟨gb328,0,none⟩=some (.int .i64 a0_2):=(blk_cell BK328.out 0).trans rfl
    have hcz84_1:wr.cell? ⟨gb328,1,none⟩=some (.int .i64 a0_3):=(blk_cell BK328.out 1).trans rfl
    have hcz84_2:wr.cell? ⟨gb328,2,none⟩=some (.int .i64 a0_0):=(blk_cell BK328.out 2).trans rfl
    have hcz84_3:wr.cell? ⟨gb328,3,none⟩=some (.int .i64 a0_1):=(blk_cell BK328.out 3).trans rfl
    have hcz84_4:wr.cell? ⟨gb328,4,none⟩=some (u329004):=(blk_cell BK328.out 4).trans rfl
    have hfz84_0:=blk_frozen BK328.out 0
    have hfz84_1:=blk_frozen BK328.out 1
    have hfz84_2:=blk_frozen BK328.out 2
    have hfz84_3:=blk_frozen BK328.out 3
    have hfz84_4:=blk_frozen BK328.out 4
    have hcz85_0:wr.cell? ⟨gb327,0,none⟩=some (.int .i64 0):=(blk_cell BK327.out 0).trans rfl
    have hcz85_1:wr.cell? ⟨gb327,1,none⟩=some (.int .i64 0):=(blk_cell BK327.out 1).trans rfl
    have hcz85_2:wr.cell? ⟨gb327,2,none⟩=some (.int .i64 0):=(blk_cell BK327.out 2).trans rfl
    have hcz85_3:wr.cell? ⟨gb327,3,none⟩=some (.int .i64 0):=(blk_cell BK327.out 3).trans rfl
    have hcz85_4:wr.cell? ⟨gb327,4,none⟩=some (.slice none 0 0):=(blk_cell BK327.out 4).trans rfl
    have hfz85_0:=blk_frozen BK327.out 0
    have hfz85_1:=blk_frozen BK327.out 1
    have hfz85_2:=blk_frozen BK327.out 2
    have hfz85_3:=blk_frozen BK327.out 3
    have hfz85_4:=blk_frozen BK327.out 4
    obtain ⟨Ao86,co86,eo86⟩:=Kd.R_slice HO_329004.out
    subst eo86
    go_wp2
    refine bodyPost_ret (results_cell_row rfl _ _ gb327 41 #[.int .i64 a0_2,.int .i64 a0_3,.int .i64 a0_0,.int .i64 a0_1,.slice Ao86 x329004_1.length co86] (0,0) _ rfl (by (with_reducible repeat (first|refine blk_drewN ?_ _|refine blk_drew ?_|refine blk_alloc ?_ _));refine blk_put (cs:=#[.int .i64 a0_2,.int .i64 a0_3,.int .i64 a0_0,.int .i64 a0_1,.slice none 0 0]) ?_ 4 _ rfl;(with_reducible repeat (first|refine blk_drewN ?_ _|refine blk_drew ?_|refine blk_alloc ?_ _));refine blk_put (cs:=#[.int .i64 a0_2,.int .i64 a0_3,.int .i64 a0_0,.int .i64 0,.slice none 0 0]) ?_ 3 _ rfl;(with_reducible repeat (first|refine blk_drewN ?_ _|refine blk_drew ?_|refine blk_alloc ?_ _));refine blk_put (cs:=#[.int .i64 a0_2,.int .i64 a0_3,.int .i64 0,.int .i64 0,.slice none 0 0]) ?_ 2 _ rfl;(with_reducible repeat (first|refine blk_drewN ?_ _|refine blk_drew ?_|refine blk_alloc ?_ _));refine blk_put (cs:=#[.int .i64 a0_2,.int .i64 0,.int .i64 0,.int .i64 0,.slice none 0 0]) ?_ 1 _ rfl;(with_reducible repeat (first|refine blk_drewN ?_ _|refine blk_drew ?_|refine blk_alloc ?_ _));refine blk_put (cs:=#[.int .i64 0,.int .i64 0,.int .i64 0,.int .i64 0,.slice none 0 0]) ?_ 0 _ rfl;(with_reducible repeat (first|refine blk_drewN ?_ _|refine blk_drew ?_|refine blk_alloc ?_ _));exact BK327.out) Try.underlying41 rfl (by kernel_rfl)) rfl ?_
    exact ⟨_,by first|rfl|(simp [errW_none,errW_some]<;>rfl)|(simp [*,errW_none,errW_some]<;>rfl),by (with_reducible repeat (first|apply Kd.R_alloc|apply Kd.R_drewN|apply Kd.R_drew));exact Kd.R_mono (Kd.R_far (p:=⟨gb327,4,none⟩) (Kd.R_far (p:=⟨gb327,3,none⟩) (Kd.R_far (p:=⟨gb327,2,none⟩) (Kd.R_far (p:=⟨gb327,1,none⟩) (Kd.R_far (p:=⟨gb327,0,none⟩) (Kd.R_types HO_329004.out BK327.out (by decide)) (fun _ hk=>hk.2) (.int .i64 a0_2)) (fun _ hk=>hk.2) (.int .i64 a0_3)) (fun _ hk=>hk.2) (.int .i64 a0_0)) (fun _ hk=>hk.2) (.int .i64 a0_1)) (fun _ hk=>hk.2) (.slice Ao86 x329004_1.length co86)) (fun _ hk=>trivial),bel⟩

end Go.Proofs.Ytoaijganmfijmaa.Pr
-- shrunk
