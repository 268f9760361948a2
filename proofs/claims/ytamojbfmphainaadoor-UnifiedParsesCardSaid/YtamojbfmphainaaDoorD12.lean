-- written by a program of this session's (a turned copy of the kit's printer); Lean checks it
import Derived.Test.YtamojbfmphainaaDoorK0
import Derived.Test.YtamojbfmphainaaDoorK3
set_option linter.unusedVariables false
set_option linter.unusedSimpArgs false
namespace Go.Proofs.YtamojbfmphainaaDoor.Pr
open Go.RowKit Go.Proofs.YtamojbfmphainaaDoorW.PrintWords Go.Proofs.YtamojbfmphainaaDoorW.PrintLast Go.Proofs.YtamojbfmphainaaDoorW.PrintMore
attribute [local go_sem] max2_int min2_int max_two min_two max_three min_three max_four min_four   -- for this text's walks alone

mutual
def r06_head.l0:Nat→ByteArray→List Int→Int→List ByteArray→Int→Option (Int × Int × Int × Int × List ByteArray × Bool)
 | 0,_,_,_,_,_=>none
 | k+1,x0,x4,x5,x6,x7=>if x7<4 then (if 0≤x7 then (if x7<(x6.length:Int) then ((r06_word.f k x0 x5 (rdOf ByteArray.empty x6 x7)).bind fun t203=>(if t203<0 then (some (0,0,0,0,([]:List ByteArray),false)) else ((r06_number.f k x0 t203).bind fun bt204=>(if bt204.1<0 then (some (0,0,0,0,([]:List ByteArray),false)) else (if x4.length<17592186044416 then (r06_head.l0 k x0 (x4++[bt204.1]) bt204.2 x6 (wrap64 (x7+1))) else (none)))))) else (none)) else (none)) else ((r06_word.f k x0 x5 (⟨#[32,64,64,10]⟩:ByteArray)).bind fun t209=>(if t209=(x0.size:Int) then (if 0<(x4.length:Int) then (if (rd x4 0)=0 then (if 1<(x4.length:Int) then (if (rd x4 1) > 0 then (r06_head.j1 k x4 true) else (if 2<(x4.length:Int) then (if (rd x4 2)=0 then (if 3<(x4.length:Int) then (r06_head.j1 k x4 (decide ((rd x4 3) > 0))) else (none)) else (r06_head.j1 k x4 false)) else (none))) else (none)) else (if 2<(x4.length:Int) then (if (rd x4 2)=0 then (if 3<(x4.length:Int) then (r06_head.j1 k x4 (decide ((rd x4 3) > 0))) else (none)) else (r06_head.j1 k x4 false)) else (none))) else (none)) else (r06_head.j1 k x4 true)))
def r06_head.j1:Nat→List Int→Bool→Option (Int × Int × Int × Int × List ByteArray × Bool)
 | 0,_,_=>none
 | k+1,x4,x70=>if x70=true then (some (0,0,0,0,([]:List ByteArray),false)) else (if 0<(x4.length:Int) then (if 1<(x4.length:Int) then (if 2<(x4.length:Int) then (if 3<(x4.length:Int) then (if (rd x4 1) > 0 then (if (rd x4 3) > 0 then (some (wrap64 ((rd x4 0) - 1),rd x4 1,wrap64 ((rd x4 2) - 1),rd x4 3,([]:List ByteArray),true)) else (some (wrap64 ((rd x4 0) - 1),rd x4 1,rd x4 2,rd x4 3,([]:List ByteArray),true))) else (if (rd x4 3) > 0 then (some (rd x4 0,rd x4 1,wrap64 ((rd x4 2) - 1),rd x4 3,([]:List ByteArray),true)) else (some (rd x4 0,rd x4 1,rd x4 2,rd x4 3,([]:List ByteArray),true)))) else (none)) else (none)) else (none)) else (none))
end
def r06_head.f (k:Nat) (a0:ByteArray):Option (Int × Int × Int × Int × List ByteArray × Bool):=r06_head.l0 k a0 ([]:List Int) 0 (([(⟨#[64,64,32,45]⟩:ByteArray),(⟨#[44]⟩:ByteArray),(⟨#[32,43]⟩:ByteArray),(⟨#[44]⟩:ByteArray)]:List ByteArray)) 0
theorem five_far {w:World} {q:Addr} {g:Nat} {x:Value} (h:q.block≠g) (hq:w.cell? q=some x) (v0 v1 v2 v3 v4:Value):(World.setCell (World.setCell (World.setCell (World.setCell (World.setCell w ⟨g,0,none⟩ v0) ⟨g,1,none⟩ v1) ⟨g,2,none⟩ v2) ⟨g,3,none⟩ v3) ⟨g,4,none⟩ v4).cell? q=some x :=
 (cell_far h _).trans ((cell_far h _).trans ((cell_far h _).trans ((cell_far h _).trans ((cell_far h _).trans hq))))
theorem five_blk {w:World} {g:Nat} {t:TypeId} {x0 x1 x2 x3 x4:Value} (h:w.heap[g]?=some (.cells #[x0,x1,x2,x3,x4] t (0,0))) (v0 v1 v2 v3 v4:Value):(World.setCell (World.setCell (World.setCell (World.setCell (World.setCell w ⟨g,0,none⟩ v0) ⟨g,1,none⟩ v1) ⟨g,2,none⟩ v2) ⟨g,3,none⟩ v3) ⟨g,4,none⟩ v4).heap[g]?=some (.cells #[v0,v1,v2,v3,v4] t (0,0)) :=
 blk_put (blk_put (blk_put (blk_put (blk_put h 0 v0 rfl) 1 v1 rfl) 2 v2 rfl) 3 v3 rfl) 4 v4 rfl
theorem five_off {w:World} {q g:Nat} {t:TypeId} {cs:Array Value} (h:w.heap[q]?=some (.cells cs t (0,0))) (hq:q≠g) (v0 v1 v2 v3 v4:Value):(World.setCell (World.setCell (World.setCell (World.setCell (World.setCell w ⟨g,0,none⟩ v0) ⟨g,1,none⟩ v1) ⟨g,2,none⟩ v2) ⟨g,3,none⟩ v3) ⟨g,4,none⟩ v4).heap[q]?=some (.cells cs t (0,0)) :=
 blk_far (blk_far (blk_far (blk_far (blk_far h hq v0) hq v1) hq v2) hq v3) hq v4
theorem five_below {w W:World} {g:Nat} (h:Below w.heap.size w W) (hg:w.heap.size≤g) (v0 v1 v2 v3 v4:Value):Below w.heap.size w (World.setCell (World.setCell (World.setCell (World.setCell (World.setCell W ⟨g,0,none⟩ v0) ⟨g,1,none⟩ v1) ⟨g,2,none⟩ v2) ⟨g,3,none⟩ v3) ⟨g,4,none⟩ v4) :=
 below_set (below_set (below_set (below_set (below_set h hg) hg) hg) hg) hg
set_option maxHeartbeats 4000000 in
theorem load41 {W:World} {g:Nat} {x0 x1 x2 x3 x4:Value} (h:W.heap[g]?=some (.cells #[x0,x1,x2,x3,x4] 41 (0,0))) {ev:Operand→Value} {o:Oper} {p:Operand} (ho:o.op=.load 41 p) (hp:ev p=.pointer (some ⟨g,0,none⟩)) :
  (execOp ev o).run Tryd.prog W=.ok (.value (.agg #[x0,x1,x2,x3,x4])) W:=by
 have hu41:=Tryd.underlying41
 have hz0:W.cell? ⟨g,0,none⟩=some x0:=(blk_cell h 0).trans rfl
 have hz1:W.cell? ⟨g,1,none⟩=some x1:=(blk_cell h 1).trans rfl
 have hz2:W.cell? ⟨g,2,none⟩=some x2:=(blk_cell h 2).trans rfl
 have hz3:W.cell? ⟨g,3,none⟩=some x3:=(blk_cell h 3).trans rfl
 have hz4:W.cell? ⟨g,4,none⟩=some x4:=(blk_cell h 4).trans rfl
 clear h
 unfold execOp
 rw [ho]
 simp only [hp]
 go_simp
set_option maxHeartbeats 4000000 in
theorem store41 {W:World} {g:Nat} {x0 x1 x2 x3 x4:Value} {v0 v1 v2 v3:Int} (h:W.heap[g]?=some (.cells #[x0,x1,x2,x3,x4] 41 (0,0))) {ev:Operand→Value} {o:Oper} {p u:Operand} (ho:o.op=.store 41 p u) (hp:ev p=.pointer (some ⟨g,0,none⟩)) (hu:ev u=.agg #[.int .i64 v0,.int .i64 v1,.int .i64 v2,.int .i64 v3,.slice none 0 0]) :
  (execOp ev o).run Tryd.prog W=.ok .skip (World.setCell (World.setCell (World.setCell (World.setCell (World.setCell W ⟨g,0,none⟩ (.int .i64 v0)) ⟨g,1,none⟩ (.int .i64 v1)) ⟨g,2,none⟩ (.int .i64 v2)) ⟨g,3,none⟩ (.int .i64 v3)) ⟨g,4,none⟩ (.slice none 0 0)):=by
 have hu41:=Tryd.underlying41
 have hz0:W.cell? ⟨g,0,none⟩=some x0:=(blk_cell h 0).trans rfl
 have hz1:W.cell? ⟨g,1,none⟩=some x1:=(blk_cell h 1).trans rfl
 have hz2:W.cell? ⟨g,2,none⟩=some x2:=(blk_cell h 2).trans rfl
 have hz3:W.cell? ⟨g,3,none⟩=some x3:=(blk_cell h 3).trans rfl
 have hz4:W.cell? ⟨g,4,none⟩=some x4:=(blk_cell h 4).trans rfl
 have hg0:=blk_frozen h 0
 have hg1:=blk_frozen h 1
 have hg2:=blk_frozen h 2
 have hg3:=blk_frozen h 3
 have hg4:=blk_frozen h 4
 clear h
 unfold execOp
 rw [ho]
 simp only [hp,hu]
 go_simp
theorem store_run {P:Program} {ops:Array Oper} {rest:List Oper} {o:Oper} {a:Act} {Q:Exit→Act→World→Prop} {W w1:World} (hgd:o.guard=none) (hd:o.dst=none) (hrun:(execOp a.eval o).run P W=.ok .skip w1) (h:wpList P ops Q rest (a.put none undef) w1):wpList P ops Q (o :: rest) a W:=by
 refine wpList_plain hgd fun K hK=>?_
 unfold Oper.wp
 rw [hrun]
 show K (a.put o.dst undef) w1
 rw [hd]
 exact hK _ _ h
def r06_head.T18:Bool × List (List Nat × List Nat):=(true,[([],[]),([0],[0]),([1],[1]),([],[]),([3],[3]),([4],[4]),([],[]),([6],[6]),([7],[7]),([],[]),([9],[9]),([10],[10]),([2,5,8,11],[2,5,8,11]),([],[]),([13,12,0,1,2,3,4,5,6,7,8,9,10,11,12,13],[12,13])])
def r06_head.B18:List Nat:=[0,1,3,0,8,24,0,64,192,0,512,1536,4095,0,16383]
theorem r06_head.tab18:rtab .any (opsOf Tryd.f35 18)=r06_head.T18:=by kernel_rfl
theorem r06_head.bits18:waitsOk r06_head.T18.2 r06_head.B18=true:=by kernel_rfl
set_option maxHeartbeats 8000000 in
set_option maxRecDepth 100000 in
theorem r06_head.calls (k:Nat) (a0:ByteArray) (r1:Int) (r2:Int) (r3:Int) (r4:Int) (r5:List ByteArray) (r6:Bool) (w:World) (h:r06_head.f k a0=some (r1,r2,r3,r4,r5,r6)) :
  Calls Tryd.prog 35 #[.string a0] w fun e w'=>∃ v4_:Value,e=.returned (.tuple #[.agg #[.int .i64 r1,.int .i64 r2,.int .i64 r3,.int .i64 r4,v4_],.bool r6])∧Kd.R Kd.string 9 w' w.heap.size (fun _=>True) v4_ r5∧Below w.heap.size w w':=by
 have hu41:=Tryd.underlying41
 have HB:=Aside0.mk (Below.refl w.heap.size w)
 have H:(r06_head.l0 k a0 ([]:List Int) 0 (([(⟨#[64,64,32,45]⟩:ByteArray),(⟨#[44]⟩:ByteArray),(⟨#[32,43]⟩:ByteArray),(⟨#[44]⟩:ByteArray)]:List ByteArray)) 0)=some (r1,r2,r3,r4,r5,r6):=h
 clear h
 obtain ⟨y199,hy199⟩:∃ y_:List ByteArray,y_=(([(⟨#[64,64,32,45]⟩:ByteArray),(⟨#[44]⟩:ByteArray),(⟨#[32,43]⟩:ByteArray),(⟨#[44]⟩:ByteArray)]:List ByteArray)):=⟨_,rfl⟩
 replace H:(r06_head.l0 k a0 ([]:List Int) 0 y199 0)=some (r1,r2,r3,r4,r5,r6):=by first|(rw [hy199];with_reducible exact H)|(have H2_:=(Option.bind_some _ _).symm.trans H;rw [hy199];with_reducible exact H2_)|(have H2_:=(Option.bind_some _ _).symm.trans H;with_reducible exact H2_)|with_reducible exact H|(rw [hy199];exact H)|exact H
 have Ny199:=Aside0.mk hy199
 clear hy199
 have H':=Aside0.mk H
 clear H
 go_enter Tryd.func35,Tryd.ntmps35
 go_wp2_with (first|((with_reducible refine gate_dst (N:=2) rfl ?_);refine box_event ?hg (N:=2) ?hd (cs:=#[.int .i64 0,.int .i64 0,.int .i64 0,.int .i64 0,.slice none 0 0]) (t:=41) ?hr ?_;(case hd=>rfl);(case hg=>rfl);(case hr=>first|(go_simp;done)|(go_simp;rfl));intro gb198 hg w2 hbox hb;have n0_:=Aside0.mk (below_step (by repeat (first|(with_reducible first|exact HB.out|apply below_alloc|apply pw_below_drewN|apply below_drew1)|exact HB.out)) hb);have n1_:=Aside0.mk (hbox);have n2_:=Aside0.mk ((by rw [hg];exact (below_size (by repeat (first|(with_reducible first|exact HB.out|apply below_alloc|apply pw_below_drewN|apply below_drew1)|exact HB.out))):w.heap.size≤gb198));have n3_:=Aside0.mk ((by rw [hg];exact (below_size (by repeat (first|(with_reducible first|exact HB.out|apply below_alloc|apply pw_below_drewN|apply below_drew1)|exact HB.out))):w.heap.size≤gb198));clear HB;have HB:=n0_;have BK198:=n1_;have GW198:=n2_;have GE198:=n3_;clear n0_ n1_ n2_ n3_;clear hb hbox hg)|((with_reducible refine gate_dst (N:=11) rfl ?_);refine Kd.R_lit Kd.string _ 9 ?hg (N:=11) ?hd (xs:=([(⟨#[64,64,32,45]⟩:ByteArray),(⟨#[44]⟩:ByteArray),(⟨#[32,43]⟩:ByteArray),(⟨#[44]⟩:ByteArray)]:List ByteArray)) (inner:=[.string (⟨#[64,64,32,45]⟩:ByteArray),.string (⟨#[44]⟩:ByteArray),.string (⟨#[32,43]⟩:ByteArray),.string (⟨#[44]⟩:ByteArray)]) (ok:=fun _=>True) (okp:=fun _=>True) ?hr ?hp (fun _ hk=>hk) trivial (Below.refl _ _) (Nat.le_refl _) (by simp) ?_;(case hd=>rfl);(case hg=>rfl);(case hr=>first|(go_simp;done)|(go_simp;rfl));(case hp=>exact (Reps.one (show Kd.M Kd.string _ _ _ (⟨#[64,64,32,45]⟩:ByteArray) [.string (⟨#[64,64,32,45]⟩:ByteArray)] from rfl) (Reps.one (show Kd.M Kd.string _ _ _ (⟨#[44]⟩:ByteArray) [.string (⟨#[44]⟩:ByteArray)] from rfl) (Reps.one (show Kd.M Kd.string _ _ _ (⟨#[32,43]⟩:ByteArray) [.string (⟨#[32,43]⟩:ByteArray)] from rfl) (Reps.one (show Kd.M Kd.string _ _ _ (⟨#[44]⟩:ByteArray) [.string (⟨#[44]⟩:ByteArray)] from rfl) (Reps.none _ _))))));intro v200 w3 ho4 hb hg_ hnew_;clear hg_ hnew_;(first|rw [← Ny199.out] at ho4|(simp only [Int.reduceToNat] at ho4;rw [← Ny199.out] at ho4));have n0_:=Aside0.mk (Kd.R_lower ho4 (below_size (by repeat (first|(with_reducible first|exact HB.out|apply below_alloc|apply pw_below_drewN|apply below_drew1|refine below_set ?_ GE198.out)|exact HB.out))));have n1_:=Aside0.mk (blk_below (g:=gb198) (o:=.cells #[.int .i64 0,.int .i64 0,.int .i64 0,.int .i64 0,.slice none 0 0] 41 (0,0)) (by (with_reducible repeat (first|refine blk_drewN ?_ _|refine blk_drew ?_|refine blk_alloc ?_ _));exact BK198.out) hb);have n2_:=Aside0.mk (below_step (by repeat (first|(with_reducible first|exact HB.out|apply below_alloc|apply pw_below_drewN|apply below_drew1|refine below_set ?_ GE198.out)|exact HB.out)) hb);clear BK198;clear HB;have HO201:=n0_;have BK198:=n1_;have HB:=n2_;clear n0_ n1_ n2_;clear hb ho4))
 go_loopg [4,5,7] k (fun kq v4 v5 v7 w'=>∃ (x4_1:List Int) (x5_1:Int) (x7_1:Int) (x199000_1:Int) (x199001_1:Int) (x199002_1:Int) (x199003_1:Int),v5=.int .i64 x5_1∧v7=.int .i64 x7_1∧Aside0 (r06_head.l0 kq a0 x4_1 x5_1 y199 x7_1=some (r1,r2,r3,r4,r5,r6))∧Aside0 (kq≤k)∧Aside0 (Kd.R (Kd.int .i64) 3 w' w.heap.size (fun _=>True) v4 x4_1)∧Aside0 (Kd.R Kd.string 9 w' w.heap.size (fun _=>True) v200 y199)∧Aside0 (w'.heap[gb198]?=some (.cells #[.int .i64 x199000_1,.int .i64 x199001_1,.int .i64 x199002_1,.int .i64 x199003_1,(.slice none 0 0)] 41 (0,0)))∧Aside0 (Below w.heap.size w w'))
 case atStart=>exact ⟨(([]:List Int)),(0),(0),(0),(0),(0),(0),(by first|rfl|(simp;done)|(simp [*];done)),(by first|rfl|(simp;done)|(simp [*];done)),H',⟨Nat.le_refl _⟩,⟨by first|exact Kd.R_nil _ _ _ _ _|exact Kd.N_nil _ _ _ _ _|exact Kd.V_nil _ _ _ _ _|exact Kd.Q_nil _ _ _ _ _|exact Kd.S_nil _ _ _ _ _⟩,⟨by (with_reducible repeat (first|apply Kd.R_alloc|apply Kd.R_drewN|apply Kd.R_drew));exact HO201.out⟩,⟨by (with_reducible repeat (first|refine blk_drewN ?_ _|refine blk_drew ?_|refine blk_alloc ?_ _));exact BK198.out⟩,⟨by repeat (first|(with_reducible first|exact HB.out|apply below_alloc|apply pw_below_drewN|apply below_drew1|refine below_set ?_ GE198.out)|exact HB.out)⟩⟩
 case round =>
  clear H'
  try clear p2
  try clear c3
  obtain ⟨x4_1,x5_1,x7_1,x199000_1,x199001_1,x199002_1,x199003_1,rfl,rfl,HA,HK1,HO_4,HO_6,BK198,HB⟩:=hrel
  cases gk with
  | zero=>exact absurd HA.out (by simp [r06_head.l0])
  | succ k1 =>
   have H:=HA.out
   clear HA
   simp only [r06_head.l0] at H
   by_cases c5:x7_1<4
   ·rw [if_pos c5] at H
    have c5b0:decide (x7_1<4)=true:=decide_eq_true c5
    clear c5
    by_cases c6:0≤x7_1
    ·rw [if_pos c6] at H
     have c6b0:decide (0≤x7_1)=true:=decide_eq_true c6
     clear c6
     by_cases c7:x7_1<(y199.length:Int)
     ·rw [if_pos c7] at H
      have c7b0:decide (x7_1<(y199.length:Int))=true:=decide_eq_true c7
      clear c7
      replace H:=Option.bind_eq_some_iff.mp H
      obtain ⟨t203,A80,H⟩:=H
      replace H:(if t203<0 then (some (0,0,0,0,([]:List ByteArray),false)) else ((r06_number.f k1 a0 t203).bind fun bt204=>(if bt204.1<0 then (some (0,0,0,0,([]:List ByteArray),false)) else (if x4_1.length<17592186044416 then (r06_head.l0 k1 a0 (x4_1++[bt204.1]) bt204.2 y199 (wrap64 (x7_1+1))) else (none)))))=some (r1,r2,r3,r4,r5,r6):=H
      have A8:=Aside0.mk A80
      clear A80
      by_cases c9:t203<0
      ·rw [if_pos c9] at H
       have c9b0:decide (t203<0)=true:=decide_eq_true c9
       clear c9
       simp only [Option.some.injEq,Prod.mk.injEq] at H
       obtain ⟨rfl,rfl,rfl,rfl,rfl,rfl⟩:=H
       obtain ⟨Ao10,co10,eo10⟩:=Kd.R_slice HO_6.out
       subst eo10
       have p202:0≤(x7_1:Int):=of_decide_eq_true (by first|(with_reducible assumption)|assumption)
       have q202:x7_1<(y199.length:Int):=of_decide_eq_true (by first|(with_reducible assumption)|assumption)
       obtain ⟨ad202,e202,hx202_0⟩:=Kd.at_string (Kd.R_reads' HO_6.out).2.2 x7_1 p202 q202
       cases e202
       replace p202:=eq_true p202
       replace q202:=eq_true q202
       go_wp2_with (first|((with_reducible refine gate_callee (f:=62) rfl ?_);refine goesL_ (some 22) rfl rfl Tryd.func62 (by kernel_rfl) rfl #[.string a0,.int .i64 x5_1,.string (rdOf ByteArray.empty y199 x7_1)] rfl (by (try simp only [List.map_toArray,List.map_cons,List.map_nil]);first|done|rfl|(simp only [List.length_drop,List.length_take];rfl)) ?_;(with_reducible refine (r06_word.calls k1 a0 x5_1 (rdOf ByteArray.empty y199 x7_1) t203 _ A8.out).mono ?_);rintro e w' ⟨rfl,⟨nd,rfl⟩⟩;refine ⟨_,rfl,?_⟩;(try (rw [drewN_self wr];generalize hq_:World.drewN wr _=wr;have n0_:Aside0 (Kd.R (Kd.int .i64) 3 wr w.heap.size (fun _=>True) u4 x4_1):=⟨by rw [← hq_];exact (by (with_reducible repeat (first|apply Kd.R_alloc|apply Kd.R_drewN|apply Kd.R_drew));exact HO_4.out)⟩;have n1_:Aside0 (Kd.R Kd.string 9 wr w.heap.size (fun _=>True) (.slice (some ad202) y199.length co10) y199):=⟨by rw [← hq_];exact (by (with_reducible repeat (first|apply Kd.R_alloc|apply Kd.R_drewN|apply Kd.R_drew));exact HO_6.out)⟩;have n2_:Aside0 (wr.heap[gb198]?=some (.cells #[.int .i64 x199000_1,.int .i64 x199001_1,.int .i64 x199002_1,.int .i64 x199003_1,.slice none 0 0] 41 (0,0))):=⟨by rw [← hq_];exact (by (with_reducible repeat (first|refine blk_drewN ?_ _|refine blk_drew ?_|refine blk_alloc ?_ _));exact BK198.out)⟩;have n3_:Aside0 (Below w.heap.size w wr):=⟨by rw [← hq_];exact (by repeat (first|(with_reducible first|exact HB.out|apply below_alloc|apply pw_below_drewN|apply below_drew1|refine below_set ?_ GE198.out)|exact HB.out))⟩;clear HO_4 HO_6 BK198 HB hq_;have HO_4:=n0_;have HO_6:=n1_;have BK198:=n2_;have HB:=n3_;clear n0_ n1_ n2_ n3_));have hcz11_0:wr.cell? ⟨gb198,0,none⟩=some (.int .i64 x199000_1):=(blk_cell BK198.out 0).trans rfl;have hcz11_1:wr.cell? ⟨gb198,1,none⟩=some (.int .i64 x199001_1):=(blk_cell BK198.out 1).trans rfl;have hcz11_2:wr.cell? ⟨gb198,2,none⟩=some (.int .i64 x199002_1):=(blk_cell BK198.out 2).trans rfl;have hcz11_3:wr.cell? ⟨gb198,3,none⟩=some (.int .i64 x199003_1):=(blk_cell BK198.out 3).trans rfl;have hcz11_4:wr.cell? ⟨gb198,4,none⟩=some (.slice none 0 0):=(blk_cell BK198.out 4).trans rfl;have hfz11_0:=blk_frozen BK198.out 0;have hfz11_1:=blk_frozen BK198.out 1;have hfz11_2:=blk_frozen BK198.out 2;have hfz11_3:=blk_frozen BK198.out 3;have hfz11_4:=blk_frozen BK198.out 4))
       refine bodyPost_ret (results_ct rfl _ _ gb198 41 #[.int .i64 0,.int .i64 0,.int .i64 0,.int .i64 0,.slice none 0 0] (0,0) _ rfl (by (with_reducible repeat (first|refine blk_drewN ?_ _|refine blk_drew ?_|refine blk_alloc ?_ _));refine blk_put (cs:=#[.int .i64 0,.int .i64 0,.int .i64 0,.int .i64 0,.slice none 0 0]) ?_ 4 _ rfl;(with_reducible repeat (first|refine blk_drewN ?_ _|refine blk_drew ?_|refine blk_alloc ?_ _));refine blk_put (cs:=#[.int .i64 0,.int .i64 0,.int .i64 0,.int .i64 x199003_1,.slice none 0 0]) ?_ 3 _ rfl;(with_reducible repeat (first|refine blk_drewN ?_ _|refine blk_drew ?_|refine blk_alloc ?_ _));refine blk_put (cs:=#[.int .i64 0,.int .i64 0,.int .i64 x199002_1,.int .i64 x199003_1,.slice none 0 0]) ?_ 2 _ rfl;(with_reducible repeat (first|refine blk_drewN ?_ _|refine blk_drew ?_|refine blk_alloc ?_ _));refine blk_put (cs:=#[.int .i64 0,.int .i64 x199001_1,.int .i64 x199002_1,.int .i64 x199003_1,.slice none 0 0]) ?_ 1 _ rfl;(with_reducible repeat (first|refine blk_drewN ?_ _|refine blk_drew ?_|refine blk_alloc ?_ _));refine blk_put (cs:=#[.int .i64 x199000_1,.int .i64 x199001_1,.int .i64 x199002_1,.int .i64 x199003_1,.slice none 0 0]) ?_ 0 _ rfl;(with_reducible repeat (first|refine blk_drewN ?_ _|refine blk_drew ?_|refine blk_alloc ?_ _));exact BK198.out) Tryd.underlying41 rfl (by kernel_rfl)) rfl ?_
       exact ⟨_,by first|rfl|(simp [errW_none,errW_some]<;>rfl)|(simp [*,errW_none,errW_some]<;>rfl),by first|exact Kd.R_nil _ _ _ _ _|exact Kd.N_nil _ _ _ _ _|exact Kd.V_nil _ _ _ _ _|exact Kd.Q_nil _ _ _ _ _|exact Kd.S_nil _ _ _ _ _,by repeat (first|(with_reducible first|exact HB.out|apply below_alloc|apply pw_below_drewN|apply below_drew1|refine below_set ?_ GE198.out)|exact HB.out)⟩
      ·rw [if_neg c9] at H
       have c9b0:decide (t203<0)=false:=decide_eq_false c9
       clear c9
       replace H:=Option.bind_eq_some_iff.mp H
       obtain ⟨⟨t204,t205⟩,A120,H⟩:=H
       replace H:(if t204<0 then (some (0,0,0,0,([]:List ByteArray),false)) else (if x4_1.length<17592186044416 then (r06_head.l0 k1 a0 (x4_1++[t204]) t205 y199 (wrap64 (x7_1+1))) else (none)))=some (r1,r2,r3,r4,r5,r6):=H
       have A12:=Aside0.mk A120
       clear A120
       by_cases c13:t204<0
       ·rw [if_pos c13] at H
        have c13b0:decide (t204<0)=true:=decide_eq_true c13
        clear c13
        simp only [Option.some.injEq,Prod.mk.injEq] at H
        obtain ⟨rfl,rfl,rfl,rfl,rfl,rfl⟩:=H
        obtain ⟨Ao14,co14,eo14⟩:=Kd.R_slice HO_6.out
        subst eo14
        have p202:0≤(x7_1:Int):=of_decide_eq_true (by first|(with_reducible assumption)|assumption)
        have q202:x7_1<(y199.length:Int):=of_decide_eq_true (by first|(with_reducible assumption)|assumption)
        obtain ⟨ad202,e202,hx202_0⟩:=Kd.at_string (Kd.R_reads' HO_6.out).2.2 x7_1 p202 q202
        cases e202
        replace p202:=eq_true p202
        replace q202:=eq_true q202
        go_wp2_with (first|((with_reducible refine gate_callee (f:=62) rfl ?_);refine goesL_ (some 22) rfl rfl Tryd.func62 (by kernel_rfl) rfl #[.string a0,.int .i64 x5_1,.string (rdOf ByteArray.empty y199 x7_1)] rfl (by (try simp only [List.map_toArray,List.map_cons,List.map_nil]);first|done|rfl|(simp only [List.length_drop,List.length_take];rfl)) ?_;(with_reducible refine (r06_word.calls k1 a0 x5_1 (rdOf ByteArray.empty y199 x7_1) t203 _ A8.out).mono ?_);rintro e w' ⟨rfl,⟨nd,rfl⟩⟩;refine ⟨_,rfl,?_⟩;(try (rw [drewN_self wr];generalize hq_:World.drewN wr _=wr;have n0_:Aside0 (Kd.R (Kd.int .i64) 3 wr w.heap.size (fun _=>True) u4 x4_1):=⟨by rw [← hq_];exact (by (with_reducible repeat (first|apply Kd.R_alloc|apply Kd.R_drewN|apply Kd.R_drew));exact HO_4.out)⟩;have n1_:Aside0 (Kd.R Kd.string 9 wr w.heap.size (fun _=>True) (.slice (some ad202) y199.length co14) y199):=⟨by rw [← hq_];exact (by (with_reducible repeat (first|apply Kd.R_alloc|apply Kd.R_drewN|apply Kd.R_drew));exact HO_6.out)⟩;have n2_:Aside0 (wr.heap[gb198]?=some (.cells #[.int .i64 x199000_1,.int .i64 x199001_1,.int .i64 x199002_1,.int .i64 x199003_1,.slice none 0 0] 41 (0,0))):=⟨by rw [← hq_];exact (by (with_reducible repeat (first|refine blk_drewN ?_ _|refine blk_drew ?_|refine blk_alloc ?_ _));exact BK198.out)⟩;have n3_:Aside0 (Below w.heap.size w wr):=⟨by rw [← hq_];exact (by repeat (first|(with_reducible first|exact HB.out|apply below_alloc|apply pw_below_drewN|apply below_drew1|refine below_set ?_ GE198.out)|exact HB.out))⟩;clear HO_4 HO_6 BK198 HB hq_;have HO_4:=n0_;have HO_6:=n1_;have BK198:=n2_;have HB:=n3_;clear n0_ n1_ n2_ n3_)))|((with_reducible refine gate_callee (f:=63) rfl ?_);refine goesL_ (some 29) rfl rfl Tryd.func63 (by kernel_rfl) rfl #[.string a0,.int .i64 t203] rfl (by (try simp only [List.map_toArray,List.map_cons,List.map_nil]);first|done|rfl|(simp only [List.length_drop,List.length_take];rfl)) ?_;(with_reducible refine (r06_number.calls k1 a0 t203 t204 t205 _ A12.out).mono ?_);rintro e w' ⟨rfl,⟨nd,rfl⟩⟩;refine ⟨_,rfl,?_⟩;(try (rw [drewN_self wr];generalize hq_:World.drewN wr _=wr;have n0_:Aside0 (Kd.R (Kd.int .i64) 3 wr w.heap.size (fun _=>True) u4 x4_1):=⟨by rw [← hq_];exact (by (with_reducible repeat (first|apply Kd.R_alloc|apply Kd.R_drewN|apply Kd.R_drew));exact HO_4.out)⟩;have n1_:Aside0 (Kd.R Kd.string 9 wr w.heap.size (fun _=>True) (.slice (some ad202) y199.length co14) y199):=⟨by rw [← hq_];exact (by (with_reducible repeat (first|apply Kd.R_alloc|apply Kd.R_drewN|apply Kd.R_drew));exact HO_6.out)⟩;have n2_:Aside0 (wr.heap[gb198]?=some (.cells #[.int .i64 x199000_1,.int .i64 x199001_1,.int .i64 x199002_1,.int .i64 x199003_1,.slice none 0 0] 41 (0,0))):=⟨by rw [← hq_];exact (by (with_reducible repeat (first|refine blk_drewN ?_ _|refine blk_drew ?_|refine blk_alloc ?_ _));exact BK198.out)⟩;have n3_:Aside0 (Below w.heap.size w wr):=⟨by rw [← hq_];exact (by repeat (first|(with_reducible first|exact HB.out|apply below_alloc|apply pw_below_drewN|apply below_drew1|refine below_set ?_ GE198.out)|exact HB.out))⟩;clear HO_4 HO_6 BK198 HB hq_;have HO_4:=n0_;have HO_6:=n1_;have BK198:=n2_;have HB:=n3_;clear n0_ n1_ n2_ n3_));have hcz15_0:wr.cell? ⟨gb198,0,none⟩=some (.int .i64 x199000_1):=(blk_cell BK198.out 0).trans rfl;have hcz15_1:wr.cell? ⟨gb198,1,none⟩=some (.int .i64 x199001_1):=(blk_cell BK198.out 1).trans rfl;have hcz15_2:wr.cell? ⟨gb198,2,none⟩=some (.int .i64 x199002_1):=(blk_cell BK198.out 2).trans rfl;have hcz15_3:wr.cell? ⟨gb198,3,none⟩=some (.int .i64 x199003_1):=(blk_cell BK198.out 3).trans rfl;have hcz15_4:wr.cell? ⟨gb198,4,none⟩=some (.slice none 0 0):=(blk_cell BK198.out 4).trans rfl;have hfz15_0:=blk_frozen BK198.out 0;have hfz15_1:=blk_frozen BK198.out 1;have hfz15_2:=blk_frozen BK198.out 2;have hfz15_3:=blk_frozen BK198.out 3;have hfz15_4:=blk_frozen BK198.out 4))
        refine bodyPost_ret (results_ct rfl _ _ gb198 41 #[.int .i64 0,.int .i64 0,.int .i64 0,.int .i64 0,.slice none 0 0] (0,0) _ rfl (by (with_reducible repeat (first|refine blk_drewN ?_ _|refine blk_drew ?_|refine blk_alloc ?_ _));refine blk_put (cs:=#[.int .i64 0,.int .i64 0,.int .i64 0,.int .i64 0,.slice none 0 0]) ?_ 4 _ rfl;(with_reducible repeat (first|refine blk_drewN ?_ _|refine blk_drew ?_|refine blk_alloc ?_ _));refine blk_put (cs:=#[.int .i64 0,.int .i64 0,.int .i64 0,.int .i64 x199003_1,.slice none 0 0]) ?_ 3 _ rfl;(with_reducible repeat (first|refine blk_drewN ?_ _|refine blk_drew ?_|refine blk_alloc ?_ _));refine blk_put (cs:=#[.int .i64 0,.int .i64 0,.int .i64 x199002_1,.int .i64 x199003_1,.slice none 0 0]) ?_ 2 _ rfl;(with_reducible repeat (first|refine blk_drewN ?_ _|refine blk_drew ?_|refine blk_alloc ?_ _));refine blk_put (cs:=#[.int .i64 0,.int .i64 x199001_1,.int .i64 x199002_1,.int .i64 x199003_1,.slice none 0 0]) ?_ 1 _ rfl;(with_reducible repeat (first|refine blk_drewN ?_ _|refine blk_drew ?_|refine blk_alloc ?_ _));refine blk_put (cs:=#[.int .i64 x199000_1,.int .i64 x199001_1,.int .i64 x199002_1,.int .i64 x199003_1,.slice none 0 0]) ?_ 0 _ rfl;(with_reducible repeat (first|refine blk_drewN ?_ _|refine blk_drew ?_|refine blk_alloc ?_ _));exact BK198.out) Tryd.underlying41 rfl (by kernel_rfl)) rfl ?_
        exact ⟨_,by first|rfl|(simp [errW_none,errW_some]<;>rfl)|(simp [*,errW_none,errW_some]<;>rfl),by first|exact Kd.R_nil _ _ _ _ _|exact Kd.N_nil _ _ _ _ _|exact Kd.V_nil _ _ _ _ _|exact Kd.Q_nil _ _ _ _ _|exact Kd.S_nil _ _ _ _ _,by repeat (first|(with_reducible first|exact HB.out|apply below_alloc|apply pw_below_drewN|apply below_drew1|refine below_set ?_ GE198.out)|exact HB.out)⟩
       ·rw [if_neg c13] at H
        have c13b0:decide (t204<0)=false:=decide_eq_false c13
        clear c13
        by_cases c16:x4_1.length<17592186044416
        ·rw [if_pos c16] at H
         have LMc16:=Aside0.mk c16
         clear c16
         obtain ⟨y206,hy206⟩:∃ y_:List Int,y_=(x4_1++[t204]):=⟨_,rfl⟩
         replace H:(r06_head.l0 k1 a0 y206 t205 y199 (wrap64 (x7_1+1)))=some (r1,r2,r3,r4,r5,r6):=by first|(rw [hy206];with_reducible exact H)|(have H2_:=(Option.bind_some _ _).symm.trans H;rw [hy206];with_reducible exact H2_)|(have H2_:=(Option.bind_some _ _).symm.trans H;with_reducible exact H2_)|with_reducible exact H|(rw [hy206];exact H)|exact H
         have Ny206:=Aside0.mk hy206
         clear hy206
         have H':=Aside0.mk H
         clear H
         obtain ⟨Ao17,co17,eo17⟩:=Kd.R_slice HO_6.out
         subst eo17
         have p202:0≤(x7_1:Int):=of_decide_eq_true (by first|(with_reducible assumption)|assumption)
         have q202:x7_1<(y199.length:Int):=of_decide_eq_true (by first|(with_reducible assumption)|assumption)
         obtain ⟨ad202,e202,hx202_0⟩:=Kd.at_string (Kd.R_reads' HO_6.out).2.2 x7_1 p202 q202
         cases e202
         replace p202:=eq_true p202
         replace q202:=eq_true q202
         go_wp2_with (first|((with_reducible refine gate_callee (f:=62) rfl ?_);refine goesL_ (some 22) rfl rfl Tryd.func62 (by kernel_rfl) rfl #[.string a0,.int .i64 x5_1,.string (rdOf ByteArray.empty y199 x7_1)] rfl (by (try simp only [List.map_toArray,List.map_cons,List.map_nil]);first|done|rfl|(simp only [List.length_drop,List.length_take];rfl)) ?_;(with_reducible refine (r06_word.calls k1 a0 x5_1 (rdOf ByteArray.empty y199 x7_1) t203 _ A8.out).mono ?_);rintro e w' ⟨rfl,⟨nd,rfl⟩⟩;refine ⟨_,rfl,?_⟩)|((with_reducible refine gate_callee (f:=63) rfl ?_);refine goesL_ (some 29) rfl rfl Tryd.func63 (by kernel_rfl) rfl #[.string a0,.int .i64 t203] rfl (by (try simp only [List.map_toArray,List.map_cons,List.map_nil]);first|done|rfl|(simp only [List.length_drop,List.length_take];rfl)) ?_;(with_reducible refine (r06_number.calls k1 a0 t203 t204 t205 _ A12.out).mono ?_);rintro e w' ⟨rfl,⟨nd,rfl⟩⟩;refine ⟨_,rfl,?_⟩)|((with_reducible refine gate_builtin (b:=.append) (xs:=#[.tmp 35,.tmp 37]) rfl ?_);at_builtin;refine Kd.R_append (Kd.int .i64) (w0:=w) w.heap.size rfl (.tmp 35) (.tmp 37) 83 3 (.int .i64 0) 8 rfl Tryd.underlying83 info3 rfl (by decide) (by omega) u4 x4_1 t204 [.int .i64 t204] (fun _=>True) (fun _=>False) rfl rfl ?aP (fun _ hk=>hk.elim) ?aF ?aO ?aB ?aS ?aL ?_;(case aP=>exact rfl);(case aB=>exact (by repeat (first|(with_reducible first|exact HB.out|apply below_alloc|apply pw_below_drewN|apply below_drew1|refine below_set ?_ GE198.out)|exact HB.out)));(case aF=>exact (fun _ _=>trivial));(case aO=>exact (by (with_reducible repeat (first|apply Kd.R_alloc|apply Kd.R_drewN|apply Kd.R_drew));exact HO_4.out));(case aS=>exact (below_size (by repeat (first|(with_reducible first|exact HB.out|apply below_alloc|apply pw_below_drewN|apply below_drew1|refine below_set ?_ GE198.out)|exact HB.out))));(case aL=>have:=LMc16.out;omega);intro v207 w18 ho hb hg hat;rw [← Ny206.out] at ho;have n0_:=Aside0.mk (Kd.R_over' (by (with_reducible repeat (first|apply Kd.R_alloc|apply Kd.R_drewN|apply Kd.R_drew));exact HO_6.out) (Kd.R_typed (by (with_reducible repeat (first|apply Kd.R_alloc|apply Kd.R_drewN|apply Kd.R_drew));exact HO_4.out)) (by decide) hg);have n1_:=Aside0.mk (blk_grown (g:=gb198) (o:=.cells #[.int .i64 x199000_1,.int .i64 x199001_1,.int .i64 x199002_1,.int .i64 x199003_1,.slice none 0 0] 41 (0,0)) (by (with_reducible repeat (first|refine blk_drewN ?_ _|refine blk_drew ?_|refine blk_alloc ?_ _));exact BK198.out) hg (Kd.R_ne HO_4.out BK198.out (by decide)));have n2_:=Aside0.mk (hb);have n3_:=Aside0.mk (ho);clear HO_6;clear BK198;clear HB;clear HO_4;have HO_6:=n0_;have BK198:=n1_;have HB:=n2_;have HO208:=n3_;clear n0_ n1_ n2_ n3_;clear ho hb hg hat))
         go_roundg k1
         case measure=>have:=HK1.out;omega
         case rel=>exact ⟨(y206),(t205),(wrap64 (x7_1+1)),(x199000_1),(x199001_1),(x199002_1),(x199003_1),(by first|rfl|(simp;done)|(simp [*];done)),(by first|rfl|(simp;done)|(simp [*];done)),H',⟨by have:=HK1.out;omega⟩,⟨by (with_reducible repeat (first|apply Kd.R_alloc|apply Kd.R_drewN|apply Kd.R_drew));exact HO208.out⟩,⟨by (with_reducible repeat (first|apply Kd.R_alloc|apply Kd.R_drewN|apply Kd.R_drew));exact HO_6.out⟩,⟨by (with_reducible repeat (first|refine blk_drewN ?_ _|refine blk_drew ?_|refine blk_alloc ?_ _));exact BK198.out⟩,⟨by repeat (first|(with_reducible first|exact HB.out|apply below_alloc|apply pw_below_drewN|apply below_drew1|refine below_set ?_ GE198.out)|exact HB.out)⟩⟩
        ·rw [if_neg c16] at H
         exact absurd H (by simp)
     ·rw [if_neg c7] at H
      exact absurd H (by simp)
    ·rw [if_neg c6] at H
     exact absurd H (by simp)
   ·rw [if_neg c5] at H
    have c5b0:decide (x7_1<4)=false:=decide_eq_false c5
    clear c5
    replace H:=Option.bind_eq_some_iff.mp H
    obtain ⟨t209,A190,H⟩:=H
    replace H:(if t209=(a0.size:Int) then (if 0<(x4_1.length:Int) then (if (rd x4_1 0)=0 then (if 1<(x4_1.length:Int) then (if (rd x4_1 1) > 0 then (r06_head.j1 k1 x4_1 true) else (if 2<(x4_1.length:Int) then (if (rd x4_1 2)=0 then (if 3<(x4_1.length:Int) then (r06_head.j1 k1 x4_1 (decide ((rd x4_1 3) > 0))) else (none)) else (r06_head.j1 k1 x4_1 false)) else (none))) else (none)) else (if 2<(x4_1.length:Int) then (if (rd x4_1 2)=0 then (if 3<(x4_1.length:Int) then (r06_head.j1 k1 x4_1 (decide ((rd x4_1 3) > 0))) else (none)) else (r06_head.j1 k1 x4_1 false)) else (none))) else (none)) else (r06_head.j1 k1 x4_1 true))=some (r1,r2,r3,r4,r5,r6):=H
    have A19:=Aside0.mk A190
    clear A190
    have HC20:=Aside0.mk H
    clear H
    go_upto_region 16 with (first|((with_reducible refine gate_callee (f:=62) rfl ?_);refine goesL_ (some 42) rfl rfl Tryd.func62 (by kernel_rfl) rfl #[.string a0,.int .i64 x5_1,.string (⟨#[32,64,64,10]⟩:ByteArray)] rfl (by (try simp only [List.map_toArray,List.map_cons,List.map_nil]);first|done|rfl|(simp only [List.length_drop,List.length_take];rfl)) ?_;(with_reducible refine (r06_word.calls k1 a0 x5_1 (⟨#[32,64,64,10]⟩:ByteArray) t209 _ A19.out).mono ?_);rintro e w' ⟨rfl,⟨nd,rfl⟩⟩;refine ⟨_,rfl,?_⟩))
    (try simp only [Act.put,List.setIfInBounds_toArray,List.set_cons_zero,List.set_cons_succ])
    go_cut [70] (fun v70 wc=>∃ (kq:Nat) (x70_19:Bool),v70=.bool x70_19∧Aside0 (r06_head.j1 kq x4_1 x70_19=some (r1,r2,r3,r4,r5,r6))∧Aside0 (kq≤k1)∧Aside0 (Kd.R (Kd.int .i64) 3 wc w.heap.size (fun _=>True) u4 x4_1)∧Aside0 (wc.heap[gb198]?=some (.cells #[.int .i64 x199000_1,.int .i64 x199001_1,.int .i64 x199002_1,.int .i64 x199003_1,(.slice none 0 0)] 41 (0,0)))∧Aside0 (Below w.heap.size w wc))
    case first =>
     have H:=HC20.out
     clear HC20
     by_cases c21:t209=(a0.size:Int)
     ·rw [if_pos c21] at H
      have c21b0:(t209 == (a0.size:Int))=true:=beq_iff_eq.mpr c21
      have c21b1:(t209 != (a0.size:Int))=false:=bne_eq_false_iff_eq.mpr c21
      clear c21
      (first|rw [c21b0]|(simp only [i64_w,i32_w];rw [c21b0])|skip)
      by_cases c22:0<(x4_1.length:Int)
      ·rw [if_pos c22] at H
       have c22b0:decide (0<(x4_1.length:Int))=true:=decide_eq_true c22
       have c22b1:decide (0<x4_1.length)=true:=decide_eq_true (by omega)
       clear c22
       by_cases c23:(rd x4_1 0)=0
       ·rw [if_pos c23] at H
        have c23b0:((rd x4_1 0) == 0)=true:=beq_iff_eq.mpr c23
        have c23b1:((rd x4_1 0) != 0)=false:=bne_eq_false_iff_eq.mpr c23
        clear c23
        by_cases c24:1<(x4_1.length:Int)
        ·rw [if_pos c24] at H
         have c24b0:decide (1<(x4_1.length:Int))=true:=decide_eq_true c24
         have c24b1:decide (1<x4_1.length)=true:=decide_eq_true (by omega)
         clear c24
         by_cases c25:(rd x4_1 1) > 0
         ·rw [if_pos c25] at H
          have c25b0:decide (0<(rd x4_1 1))=true:=decide_eq_true c25
          clear c25
          have H':=Aside0.mk H
          clear H
          obtain ⟨Ao26,co26,eo26⟩:=Kd.R_slice HO_4.out
          subst eo26
          have p210:0≤(0:Int):=(by omega)
          have q210:0<(x4_1.length:Int):=of_decide_eq_true (by first|(with_reducible assumption)|assumption)
          obtain ⟨ad210,e210,hx210_0⟩:=Kd.at_int (Kd.R_reads' HO_4.out).2.2 0 p210 q210
          cases e210
          have qi210:(0<x4_1.length)=True:=eq_true (by omega)
          (try rw [show ((0:Int)).toNat=0 from rfl] at hx210_0)
          (try rw [Addr.add_zero'] at hx210_0)
          replace p210:=eq_true p210
          replace q210:=eq_true q210
          have p211:0≤(1:Int):=(by omega)
          have q211:1<(x4_1.length:Int):=of_decide_eq_true (by first|(with_reducible assumption)|assumption)
          obtain ⟨ad211,e211,hx211_0⟩:=Kd.at_int (Kd.R_reads' HO_4.out).2.2 1 p211 q211
          obtain rfl:ad210=ad211:=(by injection e211)
          (try simp only [show (1:Int).toNat=1 from rfl,Nat.reduceMul,Nat.reduceEqDiff,Go.Addr.add,↓reduceIte] at hx211_0)
          have qi211:(1<x4_1.length)=True:=eq_true (by omega)
          (try rw [show ((1:Int)).toNat=1 from rfl] at hx211_0)
          replace p211:=eq_true p211
          replace q211:=eq_true q211
          go_wp2
          go_meet
          case rel=>exact ⟨_,(true),(by first|rfl|(simp;done)|(simp [*];done)),H',⟨by have:=HK1.out;first|omega|exact Nat.le_refl _⟩,⟨by (with_reducible repeat (first|apply Kd.R_alloc|apply Kd.R_drewN|apply Kd.R_drew));exact HO_4.out⟩,⟨by (with_reducible repeat (first|refine blk_drewN ?_ _|refine blk_drew ?_|refine blk_alloc ?_ _));exact BK198.out⟩,⟨by repeat (first|(with_reducible first|exact HB.out|apply below_alloc|apply pw_below_drewN|apply below_drew1|refine below_set ?_ GE198.out)|exact HB.out)⟩⟩
         ·rw [if_neg c25] at H
          have c25b0:decide (0<(rd x4_1 1))=false:=decide_eq_false c25
          clear c25
          by_cases c27:2<(x4_1.length:Int)
          ·rw [if_pos c27] at H
           have c27b0:decide (2<(x4_1.length:Int))=true:=decide_eq_true c27
           have c27b1:decide (2<x4_1.length)=true:=decide_eq_true (by omega)
           clear c27
           by_cases c28:(rd x4_1 2)=0
           ·rw [if_pos c28] at H
            have c28b0:((rd x4_1 2) == 0)=true:=beq_iff_eq.mpr c28
            have c28b1:((rd x4_1 2) != 0)=false:=bne_eq_false_iff_eq.mpr c28
            clear c28
            by_cases c29:3<(x4_1.length:Int)
            ·rw [if_pos c29] at H
             have c29b0:decide (3<(x4_1.length:Int))=true:=decide_eq_true c29
             have c29b1:decide (3<x4_1.length)=true:=decide_eq_true (by omega)
             clear c29
             have H':=Aside0.mk H
             clear H
             obtain ⟨Ao30,co30,eo30⟩:=Kd.R_slice HO_4.out
             subst eo30
             have p210:0≤(0:Int):=(by omega)
             have q210:0<(x4_1.length:Int):=of_decide_eq_true (by first|(with_reducible assumption)|assumption)
             obtain ⟨ad210,e210,hx210_0⟩:=Kd.at_int (Kd.R_reads' HO_4.out).2.2 0 p210 q210
             cases e210
             have qi210:(0<x4_1.length)=True:=eq_true (by omega)
             (try rw [show ((0:Int)).toNat=0 from rfl] at hx210_0)
             (try rw [Addr.add_zero'] at hx210_0)
             replace p210:=eq_true p210
             replace q210:=eq_true q210
             have p211:0≤(1:Int):=(by omega)
             have q211:1<(x4_1.length:Int):=of_decide_eq_true (by first|(with_reducible assumption)|assumption)
             obtain ⟨ad211,e211,hx211_0⟩:=Kd.at_int (Kd.R_reads' HO_4.out).2.2 1 p211 q211
             obtain rfl:ad210=ad211:=(by injection e211)
             (try simp only [show (1:Int).toNat=1 from rfl,Nat.reduceMul,Nat.reduceEqDiff,Go.Addr.add,↓reduceIte] at hx211_0)
             have qi211:(1<x4_1.length)=True:=eq_true (by omega)
             (try rw [show ((1:Int)).toNat=1 from rfl] at hx211_0)
             replace p211:=eq_true p211
             replace q211:=eq_true q211
             have p212:0≤(2:Int):=(by omega)
             have q212:2<(x4_1.length:Int):=of_decide_eq_true (by first|(with_reducible assumption)|assumption)
             obtain ⟨ad212,e212,hx212_0⟩:=Kd.at_int (Kd.R_reads' HO_4.out).2.2 2 p212 q212
             obtain rfl:ad210=ad212:=(by injection e212)
             (try simp only [show (2:Int).toNat=2 from rfl,Nat.reduceMul,Nat.reduceEqDiff,Go.Addr.add,↓reduceIte] at hx212_0)
             have qi212:(2<x4_1.length)=True:=eq_true (by omega)
             (try rw [show ((2:Int)).toNat=2 from rfl] at hx212_0)
             replace p212:=eq_true p212
             replace q212:=eq_true q212
             have p213:0≤(3:Int):=(by omega)
             have q213:3<(x4_1.length:Int):=of_decide_eq_true (by first|(with_reducible assumption)|assumption)
             obtain ⟨ad213,e213,hx213_0⟩:=Kd.at_int (Kd.R_reads' HO_4.out).2.2 3 p213 q213
             obtain rfl:ad210=ad213:=(by injection e213)
             (try simp only [show (3:Int).toNat=3 from rfl,Nat.reduceMul,Nat.reduceEqDiff,Go.Addr.add,↓reduceIte] at hx213_0)
             have qi213:(3<x4_1.length)=True:=eq_true (by omega)
             (try rw [show ((3:Int)).toNat=3 from rfl] at hx213_0)
             replace p213:=eq_true p213
             replace q213:=eq_true q213
             go_wp2
             go_meet
             case rel=>exact ⟨_,(decide ((rd x4_1 3) > 0)),(by first|rfl|(simp;done)|(simp [*];done)),H',⟨by have:=HK1.out;first|omega|exact Nat.le_refl _⟩,⟨by (with_reducible repeat (first|apply Kd.R_alloc|apply Kd.R_drewN|apply Kd.R_drew));exact HO_4.out⟩,⟨by (with_reducible repeat (first|refine blk_drewN ?_ _|refine blk_drew ?_|refine blk_alloc ?_ _));exact BK198.out⟩,⟨by repeat (first|(with_reducible first|exact HB.out|apply below_alloc|apply pw_below_drewN|apply below_drew1|refine below_set ?_ GE198.out)|exact HB.out)⟩⟩
            ·rw [if_neg c29] at H
             exact absurd H (by simp)
           ·rw [if_neg c28] at H
            have c28b0:((rd x4_1 2) == 0)=false:=beq_eq_false_iff_ne.mpr c28
            have c28b1:((rd x4_1 2) != 0)=true:=bne_iff_ne.mpr c28
            have H':=Aside0.mk H
            clear H
            obtain ⟨Ao31,co31,eo31⟩:=Kd.R_slice HO_4.out
            subst eo31
            have p210:0≤(0:Int):=(by omega)
            have q210:0<(x4_1.length:Int):=of_decide_eq_true (by first|(with_reducible assumption)|assumption)
            obtain ⟨ad210,e210,hx210_0⟩:=Kd.at_int (Kd.R_reads' HO_4.out).2.2 0 p210 q210
            cases e210
            have qi210:(0<x4_1.length)=True:=eq_true (by omega)
            (try rw [show ((0:Int)).toNat=0 from rfl] at hx210_0)
            (try rw [Addr.add_zero'] at hx210_0)
            replace p210:=eq_true p210
            replace q210:=eq_true q210
            have p211:0≤(1:Int):=(by omega)
            have q211:1<(x4_1.length:Int):=of_decide_eq_true (by first|(with_reducible assumption)|assumption)
            obtain ⟨ad211,e211,hx211_0⟩:=Kd.at_int (Kd.R_reads' HO_4.out).2.2 1 p211 q211
            obtain rfl:ad210=ad211:=(by injection e211)
            (try simp only [show (1:Int).toNat=1 from rfl,Nat.reduceMul,Nat.reduceEqDiff,Go.Addr.add,↓reduceIte] at hx211_0)
            have qi211:(1<x4_1.length)=True:=eq_true (by omega)
            (try rw [show ((1:Int)).toNat=1 from rfl] at hx211_0)
            replace p211:=eq_true p211
            replace q211:=eq_true q211
            have p212:0≤(2:Int):=(by omega)
            have q212:2<(x4_1.length:Int):=of_decide_eq_true (by first|(with_reducible assumption)|assumption)
            obtain ⟨ad212,e212,hx212_0⟩:=Kd.at_int (Kd.R_reads' HO_4.out).2.2 2 p212 q212
            obtain rfl:ad210=ad212:=(by injection e212)
            (try simp only [show (2:Int).toNat=2 from rfl,Nat.reduceMul,Nat.reduceEqDiff,Go.Addr.add,↓reduceIte] at hx212_0)
            have qi212:(2<x4_1.length)=True:=eq_true (by omega)
            (try rw [show ((2:Int)).toNat=2 from rfl] at hx212_0)
            replace p212:=eq_true p212
            replace q212:=eq_true q212
            go_wp2
            go_meet
            case rel=>exact ⟨_,(false),(by first|rfl|(simp;done)|(simp [*];done)),H',⟨by have:=HK1.out;first|omega|exact Nat.le_refl _⟩,⟨by (with_reducible repeat (first|apply Kd.R_alloc|apply Kd.R_drewN|apply Kd.R_drew));exact HO_4.out⟩,⟨by (with_reducible repeat (first|refine blk_drewN ?_ _|refine blk_drew ?_|refine blk_alloc ?_ _));exact BK198.out⟩,⟨by repeat (first|(with_reducible first|exact HB.out|apply below_alloc|apply pw_below_drewN|apply below_drew1|refine below_set ?_ GE198.out)|exact HB.out)⟩⟩
          ·rw [if_neg c27] at H
           exact absurd H (by simp)
        ·rw [if_neg c24] at H
         exact absurd H (by simp)
       ·rw [if_neg c23] at H
        have c23b0:((rd x4_1 0) == 0)=false:=beq_eq_false_iff_ne.mpr c23
        have c23b1:((rd x4_1 0) != 0)=true:=bne_iff_ne.mpr c23
        by_cases c32:2<(x4_1.length:Int)
        ·rw [if_pos c32] at H
         have c32b0:decide (2<(x4_1.length:Int))=true:=decide_eq_true c32
         have c32b1:decide (2<x4_1.length)=true:=decide_eq_true (by omega)
         clear c32
         by_cases c33:(rd x4_1 2)=0
         ·rw [if_pos c33] at H
          have c33b0:((rd x4_1 2) == 0)=true:=beq_iff_eq.mpr c33
          have c33b1:((rd x4_1 2) != 0)=false:=bne_eq_false_iff_eq.mpr c33
          clear c33
          by_cases c34:3<(x4_1.length:Int)
          ·rw [if_pos c34] at H
           have c34b0:decide (3<(x4_1.length:Int))=true:=decide_eq_true c34
           have c34b1:decide (3<x4_1.length)=true:=decide_eq_true (by omega)
           clear c34
           have H':=Aside0.mk H
           clear H
           obtain ⟨Ao35,co35,eo35⟩:=Kd.R_slice HO_4.out
           subst eo35
           have p210:0≤(0:Int):=(by omega)
           have q210:0<(x4_1.length:Int):=of_decide_eq_true (by first|(with_reducible assumption)|assumption)
           obtain ⟨ad210,e210,hx210_0⟩:=Kd.at_int (Kd.R_reads' HO_4.out).2.2 0 p210 q210
           cases e210
           have qi210:(0<x4_1.length)=True:=eq_true (by omega)
           (try rw [show ((0:Int)).toNat=0 from rfl] at hx210_0)
           (try rw [Addr.add_zero'] at hx210_0)
           replace p210:=eq_true p210
           replace q210:=eq_true q210
           have p214:0≤(2:Int):=(by omega)
           have q214:2<(x4_1.length:Int):=of_decide_eq_true (by first|(with_reducible assumption)|assumption)
           obtain ⟨ad214,e214,hx214_0⟩:=Kd.at_int (Kd.R_reads' HO_4.out).2.2 2 p214 q214
           obtain rfl:ad210=ad214:=(by injection e214)
           (try simp only [show (2:Int).toNat=2 from rfl,Nat.reduceMul,Nat.reduceEqDiff,Go.Addr.add,↓reduceIte] at hx214_0)
           have qi214:(2<x4_1.length)=True:=eq_true (by omega)
           (try rw [show ((2:Int)).toNat=2 from rfl] at hx214_0)
           replace p214:=eq_true p214
           replace q214:=eq_true q214
           have p215:0≤(3:Int):=(by omega)
           have q215:3<(x4_1.length:Int):=of_decide_eq_true (by first|(with_reducible assumption)|assumption)
           obtain ⟨ad215,e215,hx215_0⟩:=Kd.at_int (Kd.R_reads' HO_4.out).2.2 3 p215 q215
           obtain rfl:ad210=ad215:=(by injection e215)
           (try simp only [show (3:Int).toNat=3 from rfl,Nat.reduceMul,Nat.reduceEqDiff,Go.Addr.add,↓reduceIte] at hx215_0)
           have qi215:(3<x4_1.length)=True:=eq_true (by omega)
           (try rw [show ((3:Int)).toNat=3 from rfl] at hx215_0)
           replace p215:=eq_true p215
           replace q215:=eq_true q215
           go_wp2
           go_meet
           case rel=>exact ⟨_,(decide ((rd x4_1 3) > 0)),(by first|rfl|(simp;done)|(simp [*];done)),H',⟨by have:=HK1.out;first|omega|exact Nat.le_refl _⟩,⟨by (with_reducible repeat (first|apply Kd.R_alloc|apply Kd.R_drewN|apply Kd.R_drew));exact HO_4.out⟩,⟨by (with_reducible repeat (first|refine blk_drewN ?_ _|refine blk_drew ?_|refine blk_alloc ?_ _));exact BK198.out⟩,⟨by repeat (first|(with_reducible first|exact HB.out|apply below_alloc|apply pw_below_drewN|apply below_drew1|refine below_set ?_ GE198.out)|exact HB.out)⟩⟩
          ·rw [if_neg c34] at H
           exact absurd H (by simp)
         ·rw [if_neg c33] at H
          have c33b0:((rd x4_1 2) == 0)=false:=beq_eq_false_iff_ne.mpr c33
          have c33b1:((rd x4_1 2) != 0)=true:=bne_iff_ne.mpr c33
          have H':=Aside0.mk H
          clear H
          obtain ⟨Ao36,co36,eo36⟩:=Kd.R_slice HO_4.out
          subst eo36
          have p210:0≤(0:Int):=(by omega)
          have q210:0<(x4_1.length:Int):=of_decide_eq_true (by first|(with_reducible assumption)|assumption)
          obtain ⟨ad210,e210,hx210_0⟩:=Kd.at_int (Kd.R_reads' HO_4.out).2.2 0 p210 q210
          cases e210
          have qi210:(0<x4_1.length)=True:=eq_true (by omega)
          (try rw [show ((0:Int)).toNat=0 from rfl] at hx210_0)
          (try rw [Addr.add_zero'] at hx210_0)
          replace p210:=eq_true p210
          replace q210:=eq_true q210
          have p214:0≤(2:Int):=(by omega)
          have q214:2<(x4_1.length:Int):=of_decide_eq_true (by first|(with_reducible assumption)|assumption)
          obtain ⟨ad214,e214,hx214_0⟩:=Kd.at_int (Kd.R_reads' HO_4.out).2.2 2 p214 q214
          obtain rfl:ad210=ad214:=(by injection e214)
          (try simp only [show (2:Int).toNat=2 from rfl,Nat.reduceMul,Nat.reduceEqDiff,Go.Addr.add,↓reduceIte] at hx214_0)
          have qi214:(2<x4_1.length)=True:=eq_true (by omega)
          (try rw [show ((2:Int)).toNat=2 from rfl] at hx214_0)
          replace p214:=eq_true p214
          replace q214:=eq_true q214
          go_wp2
          go_meet
          case rel=>exact ⟨_,(false),(by first|rfl|(simp;done)|(simp [*];done)),H',⟨by have:=HK1.out;first|omega|exact Nat.le_refl _⟩,⟨by (with_reducible repeat (first|apply Kd.R_alloc|apply Kd.R_drewN|apply Kd.R_drew));exact HO_4.out⟩,⟨by (with_reducible repeat (first|refine blk_drewN ?_ _|refine blk_drew ?_|refine blk_alloc ?_ _));exact BK198.out⟩,⟨by repeat (first|(with_reducible first|exact HB.out|apply below_alloc|apply pw_below_drewN|apply below_drew1|refine below_set ?_ GE198.out)|exact HB.out)⟩⟩
        ·rw [if_neg c32] at H
         exact absurd H (by simp)
      ·rw [if_neg c22] at H
       exact absurd H (by simp)
     ·rw [if_neg c21] at H
      have c21b0:(t209 == (a0.size:Int))=false:=beq_eq_false_iff_ne.mpr c21
      have c21b1:(t209 != (a0.size:Int))=true:=bne_iff_ne.mpr c21
      (first|rw [c21b0]|(simp only [i64_w,i32_w];rw [c21b0])|skip)
      have H':=Aside0.mk H
      clear H
      go_wp2
      go_meet
      case rel=>exact ⟨_,(true),(by first|rfl|(simp;done)|(simp [*];done)),H',⟨by have:=HK1.out;first|omega|exact Nat.le_refl _⟩,⟨by (with_reducible repeat (first|apply Kd.R_alloc|apply Kd.R_drewN|apply Kd.R_drew));exact HO_4.out⟩,⟨by (with_reducible repeat (first|refine blk_drewN ?_ _|refine blk_drew ?_|refine blk_alloc ?_ _));exact BK198.out⟩,⟨by repeat (first|(with_reducible first|exact HB.out|apply below_alloc|apply pw_below_drewN|apply below_drew1|refine below_set ?_ GE198.out)|exact HB.out)⟩⟩
    case rest =>
     clear HC20
     try clear c1
     try clear c2
     try clear p2
     try clear q2
     try clear hx2
     try clear qi2
     try clear c3
     try clear c5
     try clear c5b0
     try clear c6
     try clear c6b0
     try clear p6
     try clear c7
     try clear c7b0
     try clear c9
     try clear c9b0
     try clear c13
     try clear c13b0
     try clear c16
     try clear p20
     try clear q20
     try clear hx20
     try clear c21
     try clear c21b0
     try clear c21b1
     try clear p21
     try clear q21
     try clear hx21
     try clear qi21
     try clear c22
     try clear c22b0
     try clear c22b1
     try clear c23
     try clear c23b0
     try clear c23b1
     try clear c24
     try clear c24b0
     try clear c24b1
     try clear c25
     try clear c25b0
     try clear c27
     try clear c27b0
     try clear c27b1
     try clear c28
     try clear c28b0
     try clear c28b1
     try clear c29
     try clear c29b0
     try clear c29b1
     try clear c32
     try clear c32b0
     try clear c32b1
     try clear c33
     try clear c33b0
     try clear c33b1
     try clear c34
     try clear c34b0
     try clear c34b1
     try clear c35
     try clear hcz11_0
     try clear hcz11_1
     try clear hcz11_2
     try clear hcz11_3
     try clear hcz11_4
     try clear hcz15_0
     try clear hcz15_1
     try clear hcz15_2
     try clear hcz15_3
     try clear hcz15_4
     try clear hfz11_0
     try clear hfz11_1
     try clear hfz11_2
     try clear hfz11_3
     try clear hfz11_4
     try clear hfz15_0
     try clear hfz15_1
     try clear hfz15_2
     try clear hfz15_3
     try clear hfz15_4
     try clear hx202_0
     try clear hx210_0
     try clear hx211_0
     try clear hx212_0
     try clear hx213_0
     try clear hx214_0
     try clear hx215_0
     try clear p2
     try clear p202
     try clear p210
     try clear p211
     try clear p212
     try clear p213
     try clear p214
     try clear p215
     try clear q202
     try clear q210
     try clear q211
     try clear q212
     try clear q213
     try clear q214
     try clear q215
     obtain ⟨kq,x70_19,rfl,HA,HJ19,HO_4,BK198,HB⟩:=hcut
     cases kq with
     | zero=>exact absurd HA.out (by simp [r06_head.j1])
     | succ kj19 =>
      have H:=HA.out
      clear HA
      simp only [r06_head.j1] at H
      by_cases c37:x70_19=true
      ·subst c37
       have H1:(some (0,0,0,0,([]:List ByteArray),false))=some (r1,r2,r3,r4,r5,r6):=by rw [if_pos rfl] at H;exact H
       clear H
       have H:=H1
       clear H1
       simp only [Option.some.injEq,Prod.mk.injEq] at H
       obtain ⟨rfl,rfl,rfl,rfl,rfl,rfl⟩:=H
       have hcz38_0:wc.cell? ⟨gb198,0,none⟩=some (.int .i64 x199000_1):=(blk_cell BK198.out 0).trans rfl
       have hcz38_1:wc.cell? ⟨gb198,1,none⟩=some (.int .i64 x199001_1):=(blk_cell BK198.out 1).trans rfl
       have hcz38_2:wc.cell? ⟨gb198,2,none⟩=some (.int .i64 x199002_1):=(blk_cell BK198.out 2).trans rfl
       have hcz38_3:wc.cell? ⟨gb198,3,none⟩=some (.int .i64 x199003_1):=(blk_cell BK198.out 3).trans rfl
       have hcz38_4:wc.cell? ⟨gb198,4,none⟩=some (.slice none 0 0):=(blk_cell BK198.out 4).trans rfl
       have hfz38_0:=blk_frozen BK198.out 0
       have hfz38_1:=blk_frozen BK198.out 1
       have hfz38_2:=blk_frozen BK198.out 2
       have hfz38_3:=blk_frozen BK198.out 3
       have hfz38_4:=blk_frozen BK198.out 4
       go_wp2
       refine bodyPost_ret (results_ct rfl _ _ gb198 41 #[.int .i64 0,.int .i64 0,.int .i64 0,.int .i64 0,.slice none 0 0] (0,0) _ rfl (by (with_reducible repeat (first|refine blk_drewN ?_ _|refine blk_drew ?_|refine blk_alloc ?_ _));refine blk_put (cs:=#[.int .i64 0,.int .i64 0,.int .i64 0,.int .i64 0,.slice none 0 0]) ?_ 4 _ rfl;(with_reducible repeat (first|refine blk_drewN ?_ _|refine blk_drew ?_|refine blk_alloc ?_ _));refine blk_put (cs:=#[.int .i64 0,.int .i64 0,.int .i64 0,.int .i64 x199003_1,.slice none 0 0]) ?_ 3 _ rfl;(with_reducible repeat (first|refine blk_drewN ?_ _|refine blk_drew ?_|refine blk_alloc ?_ _));refine blk_put (cs:=#[.int .i64 0,.int .i64 0,.int .i64 x199002_1,.int .i64 x199003_1,.slice none 0 0]) ?_ 2 _ rfl;(with_reducible repeat (first|refine blk_drewN ?_ _|refine blk_drew ?_|refine blk_alloc ?_ _));refine blk_put (cs:=#[.int .i64 0,.int .i64 x199001_1,.int .i64 x199002_1,.int .i64 x199003_1,.slice none 0 0]) ?_ 1 _ rfl;(with_reducible repeat (first|refine blk_drewN ?_ _|refine blk_drew ?_|refine blk_alloc ?_ _));refine blk_put (cs:=#[.int .i64 x199000_1,.int .i64 x199001_1,.int .i64 x199002_1,.int .i64 x199003_1,.slice none 0 0]) ?_ 0 _ rfl;(with_reducible repeat (first|refine blk_drewN ?_ _|refine blk_drew ?_|refine blk_alloc ?_ _));exact BK198.out) Tryd.underlying41 rfl (by kernel_rfl)) rfl ?_
       exact ⟨_,by first|rfl|(simp [errW_none,errW_some]<;>rfl)|(simp [*,errW_none,errW_some]<;>rfl),by first|exact Kd.R_nil _ _ _ _ _|exact Kd.N_nil _ _ _ _ _|exact Kd.V_nil _ _ _ _ _|exact Kd.Q_nil _ _ _ _ _|exact Kd.S_nil _ _ _ _ _,by repeat (first|(with_reducible first|exact HB.out|apply below_alloc|apply pw_below_drewN|apply below_drew1|refine below_set ?_ GE198.out)|exact HB.out)⟩
      ·replace c37:=Bool.eq_false_iff.mpr c37
       subst c37
       have H1:(if 0<(x4_1.length:Int) then (if 1<(x4_1.length:Int) then (if 2<(x4_1.length:Int) then (if 3<(x4_1.length:Int) then (if (rd x4_1 1) > 0 then (if (rd x4_1 3) > 0 then (some (wrap64 ((rd x4_1 0) - 1),rd x4_1 1,wrap64 ((rd x4_1 2) - 1),rd x4_1 3,([]:List ByteArray),true)) else (some (wrap64 ((rd x4_1 0) - 1),rd x4_1 1,rd x4_1 2,rd x4_1 3,([]:List ByteArray),true))) else (if (rd x4_1 3) > 0 then (some (rd x4_1 0,rd x4_1 1,wrap64 ((rd x4_1 2) - 1),rd x4_1 3,([]:List ByteArray),true)) else (some (rd x4_1 0,rd x4_1 1,rd x4_1 2,rd x4_1 3,([]:List ByteArray),true)))) else (none)) else (none)) else (none)) else (none))=some (r1,r2,r3,r4,r5,r6):=by rw [if_neg (show ¬ (false=true) by decide)] at H;exact H
       clear H
       have H:=H1
       clear H1
       by_cases c39:0<(x4_1.length:Int)
       ·rw [if_pos c39] at H
        have c39b0:decide (0<(x4_1.length:Int))=true:=decide_eq_true c39
        have c39b1:decide (0<x4_1.length)=true:=decide_eq_true (by omega)
        clear c39
        by_cases c40:1<(x4_1.length:Int)
        ·rw [if_pos c40] at H
         have c40b0:decide (1<(x4_1.length:Int))=true:=decide_eq_true c40
         have c40b1:decide (1<x4_1.length)=true:=decide_eq_true (by omega)
         clear c40
         by_cases c41:2<(x4_1.length:Int)
         ·rw [if_pos c41] at H
          have c41b0:decide (2<(x4_1.length:Int))=true:=decide_eq_true c41
          have c41b1:decide (2<x4_1.length)=true:=decide_eq_true (by omega)
          clear c41
          by_cases c42:3<(x4_1.length:Int)
          ·rw [if_pos c42] at H
           have c42b0:decide (3<(x4_1.length:Int))=true:=decide_eq_true c42
           have c42b1:decide (3<x4_1.length)=true:=decide_eq_true (by omega)
           clear c42
           have HR18:=Aside0.mk H
           clear H
           try go_wp2
           have n0_:=Aside0.mk (Kd.R_drew HO_4.out)
           have n1_:=Aside0.mk (blk_drew BK198.out)
           have n2_:=Aside0.mk (below_drew1 HB.out)
           clear HO_4
           clear BK198
           clear HB
           have HO_4:=n0_
           have BK198:=n1_
           have HB:=n2_
           clear n0_ n1_ n2_
           obtain ⟨Ao46,co46,eo46⟩:=Kd.R_slice HO_4.out
           (first|subst eo46|(injection eo46 with f1_ f2_ f3_;have f4_:=f1_.symm;have f5_:=f3_.symm;clear f1_ f2_ f3_;subst f4_;subst f5_))
           have p216:0≤(0:Int):=(by omega)
           have q216:0<(x4_1.length:Int):=of_decide_eq_true (by first|(with_reducible assumption)|assumption)
           obtain ⟨ad216,e216,hx216_0⟩:=Kd.at_int (Kd.R_reads' HO_4.out).2.2 0 p216 q216
           cases e216
           have qi216:(0<x4_1.length)=True:=eq_true (by omega)
           (try rw [show ((0:Int)).toNat=0 from rfl] at hx216_0)
           (try rw [Addr.add_zero'] at hx216_0)
           replace p216:=eq_true p216
           replace q216:=eq_true q216
           have p217:0≤(1:Int):=(by omega)
           have q217:1<(x4_1.length:Int):=of_decide_eq_true (by first|(with_reducible assumption)|assumption)
           obtain ⟨ad217,e217,hx217_0⟩:=Kd.at_int (Kd.R_reads' HO_4.out).2.2 1 p217 q217
           obtain rfl:ad216=ad217:=(by injection e217)
           (try simp only [show (1:Int).toNat=1 from rfl,Nat.reduceMul,Nat.reduceEqDiff,Go.Addr.add,↓reduceIte] at hx217_0)
           have qi217:(1<x4_1.length)=True:=eq_true (by omega)
           (try rw [show ((1:Int)).toNat=1 from rfl] at hx217_0)
           replace p217:=eq_true p217
           replace q217:=eq_true q217
           have p218:0≤(2:Int):=(by omega)
           have q218:2<(x4_1.length:Int):=of_decide_eq_true (by first|(with_reducible assumption)|assumption)
           obtain ⟨ad218,e218,hx218_0⟩:=Kd.at_int (Kd.R_reads' HO_4.out).2.2 2 p218 q218
           obtain rfl:ad216=ad218:=(by injection e218)
           (try simp only [show (2:Int).toNat=2 from rfl,Nat.reduceMul,Nat.reduceEqDiff,Go.Addr.add,↓reduceIte] at hx218_0)
           have qi218:(2<x4_1.length)=True:=eq_true (by omega)
           (try rw [show ((2:Int)).toNat=2 from rfl] at hx218_0)
           replace p218:=eq_true p218
           replace q218:=eq_true q218
           have p219:0≤(3:Int):=(by omega)
           have q219:3<(x4_1.length:Int):=of_decide_eq_true (by first|(with_reducible assumption)|assumption)
           obtain ⟨ad219,e219,hx219_0⟩:=Kd.at_int (Kd.R_reads' HO_4.out).2.2 3 p219 q219
           obtain rfl:ad216=ad219:=(by injection e219)
           (try simp only [show (3:Int).toNat=3 from rfl,Nat.reduceMul,Nat.reduceEqDiff,Go.Addr.add,↓reduceIte] at hx219_0)
           have qi219:(3<x4_1.length)=True:=eq_true (by omega)
           (try rw [show ((3:Int)).toNat=3 from rfl] at hx219_0)
           replace p219:=eq_true p219
           replace q219:=eq_true q219
           refine start_ (n:=15) (S:=fun w'=>w'.cell? ad216=some (.int .i64 (rd x4_1 0))∧w'.cell? ⟨ad216.block,ad216.off+1,none⟩=some (.int .i64 (rd x4_1 1))∧w'.cell? ⟨ad216.block,ad216.off+2,none⟩=some (.int .i64 (rd x4_1 2))∧w'.cell? ⟨ad216.block,ad216.off+3,none⟩=some (.int .i64 (rd x4_1 3))) (ds:=[]) #[false,false,false,false,false,false,false,false,false,false,false,false,false,false,false] (by kernel_rfl) rfl rfl ⟨hx216_0,hx217_0,hx218_0,hx219_0⟩ (fun hHeld=>?_);refine with_tabW r06_head.tab18 r06_head.bits18 (fun HT_ HW_=>?_)
           generalize wc.drew=w45 at HO_4 BK198 HB hx216_0 hx217_0 hx218_0 hx219_0 hHeld ⊢
           refine pure_ (i:=0) (N:=some 72) (v:=?_) (a':=?_) #[true,false,false,false,false,false,false,false,false,false,false,false,false,false,false] rfl rfl (any_of HT_.out (by kernel_rfl)) (fun _ _ _ h=>h) (Or.inl ⟨by rfl,?_⟩) ?_ ?_
           rotate_left
           ·intro w'
            go_simp
            with_reducible rfl
           rotate_left
           ·simp only [Act.put,List.setIfInBounds_toArray,List.set_cons_zero,List.set_cons_succ,i64_w,i32_w]
            rfl
           refine pure_ (i:=1) (N:=some 73) (v:=?_) (a':=?_) #[true,true,false,false,false,false,false,false,false,false,false,false,false,false,false] rfl rfl (any_of HT_.out (by kernel_rfl)) (fun _ _ _ h=>h) (Or.inl ⟨by rfl,?_⟩) ?_ ?_
           rotate_left
           ·intro w'
            go_simp
            with_reducible rfl
           rotate_left
           ·simp only [Act.put,List.setIfInBounds_toArray,List.set_cons_zero,List.set_cons_succ,i64_w,i32_w]
            rfl
           refine pure_ (i:=3) (N:=some 75) (v:=?_) (a':=?_) #[true,true,false,true,false,false,false,false,false,false,false,false,false,false,false] rfl rfl (any_of HT_.out (by kernel_rfl)) (fun _ _ _ h=>h) (Or.inl ⟨by rfl,?_⟩) ?_ ?_
           rotate_left
           ·intro w'
            go_simp
            with_reducible rfl
           rotate_left
           ·simp only [Act.put,List.setIfInBounds_toArray,List.set_cons_zero,List.set_cons_succ,i64_w,i32_w]
            rfl
           refine pure_ (i:=4) (N:=some 76) (v:=?_) (a':=?_) #[true,true,false,true,true,false,false,false,false,false,false,false,false,false,false] rfl rfl (any_of HT_.out (by kernel_rfl)) (fun _ _ _ h=>h) (Or.inl ⟨by rfl,?_⟩) ?_ ?_
           rotate_left
           ·intro w'
            go_simp
            with_reducible rfl
           rotate_left
           ·simp only [Act.put,List.setIfInBounds_toArray,List.set_cons_zero,List.set_cons_succ,i64_w,i32_w]
            rfl
           refine pure_ (i:=6) (N:=some 78) (v:=?_) (a':=?_) #[true,true,false,true,true,false,true,false,false,false,false,false,false,false,false] rfl rfl (any_of HT_.out (by kernel_rfl)) (fun _ _ _ h=>h) (Or.inl ⟨by rfl,?_⟩) ?_ ?_
           rotate_left
           ·intro w'
            go_simp
            with_reducible rfl
           rotate_left
           ·simp only [Act.put,List.setIfInBounds_toArray,List.set_cons_zero,List.set_cons_succ,i64_w,i32_w]
            rfl
           refine pure_ (i:=7) (N:=some 79) (v:=?_) (a':=?_) #[true,true,false,true,true,false,true,true,false,false,false,false,false,false,false] rfl rfl (any_of HT_.out (by kernel_rfl)) (fun _ _ _ h=>h) (Or.inl ⟨by rfl,?_⟩) ?_ ?_
           rotate_left
           ·intro w'
            go_simp
            with_reducible rfl
           rotate_left
           ·simp only [Act.put,List.setIfInBounds_toArray,List.set_cons_zero,List.set_cons_succ,i64_w,i32_w]
            rfl
           refine pure_ (i:=9) (N:=some 81) (v:=?_) (a':=?_) #[true,true,false,true,true,false,true,true,false,true,false,false,false,false,false] rfl rfl (any_of HT_.out (by kernel_rfl)) (fun _ _ _ h=>h) (Or.inl ⟨by rfl,?_⟩) ?_ ?_
           rotate_left
           ·intro w'
            go_simp
            with_reducible rfl
           rotate_left
           ·simp only [Act.put,List.setIfInBounds_toArray,List.set_cons_zero,List.set_cons_succ,i64_w,i32_w]
            rfl
           refine pure_ (i:=10) (N:=some 82) (v:=?_) (a':=?_) #[true,true,false,true,true,false,true,true,false,true,true,false,false,false,false] rfl rfl (any_of HT_.out (by kernel_rfl)) (fun _ _ _ h=>h) (Or.inl ⟨by rfl,?_⟩) ?_ ?_
           rotate_left
           ·intro w'
            go_simp
            with_reducible rfl
           rotate_left
           ·simp only [Act.put,List.setIfInBounds_toArray,List.set_cons_zero,List.set_cons_succ,i64_w,i32_w]
            rfl
           refine take_ (i:=2) (N:=some 74) (v:=?_) (a':=?_) #[true,true,true,true,true,false,true,true,false,true,true,false,false,false,false] rfl rfl (take_ofW HT_.out HW_.out (by kernel_rfl)) (fun _ _ _ h=>h) (Or.inl ⟨by rfl,?_⟩) hHeld ?_ ?_
           rotate_left
           ·rintro w' ⟨s0,s1,s2,s3⟩
            go_simp
            with_reducible rfl
           rotate_left
           ·simp only [Act.put,List.setIfInBounds_toArray,List.set_cons_zero,List.set_cons_succ,i64_w,i32_w]
            rfl
           refine take_ (i:=5) (N:=some 77) (v:=?_) (a':=?_) #[true,true,true,true,true,true,true,true,false,true,true,false,false,false,false] rfl rfl (take_ofW HT_.out HW_.out (by kernel_rfl)) (fun _ _ _ h=>h) (Or.inl ⟨by rfl,?_⟩) hHeld ?_ ?_
           rotate_left
           ·rintro w' ⟨s0,s1,s2,s3⟩
            go_simp
            with_reducible rfl
           rotate_left
           ·simp only [Act.put,List.setIfInBounds_toArray,List.set_cons_zero,List.set_cons_succ,i64_w,i32_w]
            rfl
           refine take_ (i:=8) (N:=some 80) (v:=?_) (a':=?_) #[true,true,true,true,true,true,true,true,true,true,true,false,false,false,false] rfl rfl (take_ofW HT_.out HW_.out (by kernel_rfl)) (fun _ _ _ h=>h) (Or.inl ⟨by rfl,?_⟩) hHeld ?_ ?_
           rotate_left
           ·rintro w' ⟨s0,s1,s2,s3⟩
            go_simp
            with_reducible rfl
           rotate_left
           ·simp only [Act.put,List.setIfInBounds_toArray,List.set_cons_zero,List.set_cons_succ,i64_w,i32_w]
            rfl
           refine take_ (i:=11) (N:=some 83) (v:=?_) (a':=?_) #[true,true,true,true,true,true,true,true,true,true,true,true,false,false,false] rfl rfl (take_ofW HT_.out HW_.out (by kernel_rfl)) (fun _ _ _ h=>h) (Or.inl ⟨by rfl,?_⟩) hHeld ?_ ?_
           rotate_left
           ·rintro w' ⟨s0,s1,s2,s3⟩
            go_simp
            with_reducible rfl
           rotate_left
           ·simp only [Act.put,List.setIfInBounds_toArray,List.set_cons_zero,List.set_cons_succ,i64_w,i32_w]
            rfl
           refine pure_ (i:=12) (N:=some 84) (v:=?_) (a':=?_) #[true,true,true,true,true,true,true,true,true,true,true,true,true,false,false] rfl rfl (any_of HT_.out (by kernel_rfl)) (fun _ _ _ h=>h) (Or.inl ⟨by rfl,?_⟩) ?_ ?_
           rotate_left
           ·intro w'
            go_simp
            with_reducible rfl
           rotate_left
           ·simp only [Act.put,List.setIfInBounds_toArray,List.set_cons_zero,List.set_cons_succ,i64_w,i32_w]
            rfl
           refine one_ (i:=13) (N:=some 10) #[true,true,true,true,true,true,true,true,true,true,true,true,true,true,false] rfl rfl (one_of HT_.out (by kernel_rfl)) (by decide) (fun K hK=>?_)
           refine box_step ?hg (N:=10) ?hd (cs:=#[.int .i64 0,.int .i64 0,.int .i64 0,.int .i64 0,.slice none 0 0]) (t:=41) ?hr ?_;(case hd=>rfl);(case hg=>rfl);(case hr=>first|(go_simp;done)|(go_simp;rfl))
           intro gb220 hg w47 hbox hb
           have HS0_:=(hb.cell (World.block_lt_of_cell? _ _ (hHeld.1))).trans (hHeld.1)
           have HS1_:=(hb.cell (World.block_lt_of_cell? _ _ (hHeld.2.1))).trans (hHeld.2.1)
           have HS2_:=(hb.cell (World.block_lt_of_cell? _ _ (hHeld.2.2.1))).trans (hHeld.2.2.1)
           have HS3_:=(hb.cell (World.block_lt_of_cell? _ _ (hHeld.2.2.2))).trans (hHeld.2.2.2)
           have n0_:=Aside0.mk (Kd.R_below (by (with_reducible repeat (first|apply Kd.R_alloc|apply Kd.R_drewN|apply Kd.R_drew));exact HO_4.out) hb)
           have n1_:=Aside0.mk (blk_below (g:=gb198) (o:=.cells #[.int .i64 x199000_1,.int .i64 x199001_1,.int .i64 x199002_1,.int .i64 x199003_1,.slice none 0 0] 41 (0,0)) (by (with_reducible repeat (first|refine blk_drewN ?_ _|refine blk_drew ?_|refine blk_alloc ?_ _));exact BK198.out) hb)
           have n2_:=Aside0.mk (below_step (by repeat (first|(with_reducible first|exact HB.out|apply below_alloc|apply pw_below_drewN|apply below_drew1|refine below_set ?_ GE198.out)|exact HB.out)) hb)
           have n3_:=Aside0.mk (hbox)
           have n4_:=Aside0.mk ((by rw [hg];exact (below_size (by repeat (first|(with_reducible first|exact HB.out|apply below_alloc|apply pw_below_drewN|apply below_drew1|refine below_set ?_ GE198.out)|exact HB.out))):w.heap.size≤gb220))
           have n5_:=Aside0.mk ((by rw [hg];exact (below_size (by repeat (first|(with_reducible first|exact HB.out|apply below_alloc|apply pw_below_drewN|apply below_drew1|refine below_set ?_ GE198.out)|exact HB.out))):w.heap.size≤gb220))
           have n6_:=Aside0.mk ((by rw [hg];exact Nat.ne_of_lt (blk_lt (g:=gb198) (o:=.cells #[.int .i64 x199000_1,.int .i64 x199001_1,.int .i64 x199002_1,.int .i64 x199003_1,.slice none 0 0] 41 (0,0)) (by (with_reducible repeat (first|refine blk_drewN ?_ _|refine blk_drew ?_|refine blk_alloc ?_ _));exact BK198.out)):gb198≠gb220))
           have n7_:=Aside0.mk ((by rw [hg];exact Nat.ne_of_gt (blk_lt (g:=gb198) (o:=.cells #[.int .i64 x199000_1,.int .i64 x199001_1,.int .i64 x199002_1,.int .i64 x199003_1,.slice none 0 0] 41 (0,0)) (by (with_reducible repeat (first|refine blk_drewN ?_ _|refine blk_drew ?_|refine blk_alloc ?_ _));exact BK198.out)):gb220≠gb198))
           clear HO_4
           clear BK198
           clear HB
           have HO_4:=n0_
           have BK198:=n1_
           have HB:=n2_
           have BK220:=n3_
           have GW220:=n4_
           have GE220:=n5_
           have NB198_220:=n6_
           have NB220_198:=n7_
           clear n0_ n1_ n2_ n3_ n4_ n5_ n6_ n7_
           clear hb hbox hg
           refine hK.out _ _ ⟨HS0_,HS1_,HS2_,HS3_⟩ (fun hHeld=>?_)
           clear hK K
           refine norm_ (a':=?_) ?_ ?_
           rotate_left
           ·show Act.put _ (some 10) _=_
            simp only [Act.put,List.setIfInBounds_toArray,List.set_cons_zero,List.set_cons_succ,i64_w,i32_w]
            rfl
           refine one_ (i:=14) (N:=none) #[true,true,true,true,true,true,true,true,true,true,true,true,true,true,true] rfl rfl (one_of HT_.out (by kernel_rfl)) (by decide) (fun K hK=>?_)
           have hs48:w47.cell? ⟨gb220,0,none⟩=some (.int .i64 0):=(blk_cell BK220.out 0).trans rfl
           have hfs48:=blk_frozen BK220.out 0
           have hns48_0:=NB198_220.out
           have hms48_0:=NB220_198.out
           have hs49:w47.cell? ⟨gb220,1,none⟩=some (.int .i64 0):=(blk_cell BK220.out 1).trans rfl
           have hfs49:=blk_frozen BK220.out 1
           have hns49_0:=NB198_220.out
           have hms49_0:=NB220_198.out
           have hs50:w47.cell? ⟨gb220,2,none⟩=some (.int .i64 0):=(blk_cell BK220.out 2).trans rfl
           have hfs50:=blk_frozen BK220.out 2
           have hns50_0:=NB198_220.out
           have hms50_0:=NB220_198.out
           have hs51:w47.cell? ⟨gb220,3,none⟩=some (.int .i64 0):=(blk_cell BK220.out 3).trans rfl
           have hfs51:=blk_frozen BK220.out 3
           have hns51_0:=NB198_220.out
           have hms51_0:=NB220_198.out
           have hs52:w47.cell? ⟨gb220,4,none⟩=some (.slice none 0 0):=(blk_cell BK220.out 4).trans rfl
           have hfs52:=blk_frozen BK220.out 4
           have hns52_0:=NB198_220.out
           have hms52_0:=NB220_198.out
           refine skip_ (w1:=?_) (by rfl) rfl ?_ ?_
           rotate_left
           ·go_simp
            rfl
           have hNE:ad216.block≠gb220:=Kd.own_blk (Kd.R_ne HO_4.out BK220.out (by decide))
           refine hK.out _ _ ⟨five_far (q:=ad216) hNE hHeld.1 _ _ _ _ _,five_far (q:=⟨ad216.block,ad216.off+1,none⟩) hNE hHeld.2.1 _ _ _ _ _,five_far (q:=⟨ad216.block,ad216.off+2,none⟩) hNE hHeld.2.2.1 _ _ _ _ _,five_far (q:=⟨ad216.block,ad216.off+3,none⟩) hNE hHeld.2.2.2 _ _ _ _ _⟩ (fun hHeld=>?_)
           clear hK K
           refine done_ (done_of HT_.out (by kernel_rfl)) ?_
           have HN:=NB198_220.out
           have HM:=NB220_198.out
           have B2:=Aside0.mk (five_blk BK220.out (.int .i64 (rd x4_1 0)) (.int .i64 (rd x4_1 1)) (.int .i64 (rd x4_1 2)) (.int .i64 (rd x4_1 3)) (.slice none 0 0))
           have B1:=Aside0.mk (five_off BK198.out HN (.int .i64 (rd x4_1 0)) (.int .i64 (rd x4_1 1)) (.int .i64 (rd x4_1 2)) (.int .i64 (rd x4_1 3)) (.slice none 0 0))
           have HB5:=Aside0.mk (five_below HB.out GE220.out (.int .i64 (rd x4_1 0)) (.int .i64 (rd x4_1 1)) (.int .i64 (rd x4_1 2)) (.int .i64 (rd x4_1 3)) (.slice none 0 0))
           clear hHeld hs48 hs49 hs50 hs51 hs52 hfs48 hfs49 hfs50 hfs51 hfs52
           clear HO_4 BK198 BK220 HB
           generalize hw5:World.setCell (World.setCell (World.setCell (World.setCell (World.setCell w47 ⟨gb220,0,none⟩ (.int .i64 (rd x4_1 0))) ⟨gb220,1,none⟩ (.int .i64 (rd x4_1 1))) ⟨gb220,2,none⟩ (.int .i64 (rd x4_1 2))) ⟨gb220,3,none⟩ (.int .i64 (rd x4_1 3))) ⟨gb220,4,none⟩ (.slice none 0 0)=W5 at B2 B1 HB5 ⊢
           clear hw5
           generalize rd x4_1 0=ra at *
           generalize rd x4_1 1=rb at *
           generalize rd x4_1 2=rc at *
           generalize rd x4_1 3=rq at *
           have hz0:W5.cell? ⟨gb220,0,none⟩=some (.int .i64 ra):=(blk_cell B2.out 0).trans rfl
           have hz1:W5.cell? ⟨gb220,1,none⟩=some (.int .i64 rb):=(blk_cell B2.out 1).trans rfl
           have hz2:W5.cell? ⟨gb220,2,none⟩=some (.int .i64 rc):=(blk_cell B2.out 2).trans rfl
           have hz3:W5.cell? ⟨gb220,3,none⟩=some (.int .i64 rq):=(blk_cell B2.out 3).trans rfl
           have hz4:W5.cell? ⟨gb220,4,none⟩=some (.slice none 0 0):=(blk_cell B2.out 4).trans rfl
           have hf0:=blk_frozen B2.out 0
           have hf2:=blk_frozen B2.out 2
           have hy0:W5.cell? ⟨gb198,0,none⟩=some (.int .i64 x199000_1):=(blk_cell B1.out 0).trans rfl
           have hy1:W5.cell? ⟨gb198,1,none⟩=some (.int .i64 x199001_1):=(blk_cell B1.out 1).trans rfl
           have hy2:W5.cell? ⟨gb198,2,none⟩=some (.int .i64 x199002_1):=(blk_cell B1.out 2).trans rfl
           have hy3:W5.cell? ⟨gb198,3,none⟩=some (.int .i64 x199003_1):=(blk_cell B1.out 3).trans rfl
           have hy4:W5.cell? ⟨gb198,4,none⟩=some (.slice none 0 0):=(blk_cell B1.out 4).trans rfl
           have hg0:=blk_frozen B1.out 0
           have hg1:=blk_frozen B1.out 1
           have hg2:=blk_frozen B1.out 2
           have hg3:=blk_frozen B1.out 3
           have hg4:=blk_frozen B1.out 4
           have HQ:=HR18.out
           clear HR18
           by_cases hbb:rb > 0
           ·by_cases hdd:rq > 0
            ·as_aux_lemma =>
             rw [if_pos hbb,if_pos hdd] at HQ
             simp only [Option.some.injEq,Prod.mk.injEq] at HQ
             obtain ⟨rfl,rfl,rfl,rfl,rfl,rfl⟩:=HQ
             have fb:decide (0<rb)=true:=decide_eq_true hbb
             have fd:decide (0<rq)=true:=decide_eq_true hdd
             clear hbb hdd
             go_upto_region 23 with (fail)
             have B3:=Aside0.mk (blk_put (blk_put B2.out 0 (.int .i64 (wrap64 (ra - 1))) rfl) 2 (.int .i64 (wrap64 (rc - 1))) rfl)
             have B4:=Aside0.mk (blk_far (blk_far B1.out (p:=⟨gb220,0,none⟩) HN (.int .i64 (wrap64 (ra - 1)))) (p:=⟨gb220,2,none⟩) HN (.int .i64 (wrap64 (rc - 1))))
             have HB6:=Aside0.mk (below_set (below_set HB5.out GE220.out (j:=0) (v:=.int .i64 (wrap64 (ra - 1)))) GE220.out (j:=2) (v:=.int .i64 (wrap64 (rc - 1))))
             clear hz0 hz1 hz2 hz3 hz4 hf0 hf2 hy0 hy1 hy2 hy3 hy4 hg0 hg1 hg2 hg3 hg4 fb fd
             generalize (World.setCell (World.setCell W5 ⟨gb220,0,none⟩ (.int .i64 (wrap64 (ra - 1)))) ⟨gb220,2,none⟩ (.int .i64 (wrap64 (rc - 1))))=W6 at B3 B4 HB6 ⊢
             have hz0:W6.cell? ⟨gb220,0,none⟩=some (.int .i64 (wrap64 (ra - 1))):=(blk_cell B3.out 0).trans rfl
             have hz1:W6.cell? ⟨gb220,1,none⟩=some (.int .i64 rb):=(blk_cell B3.out 1).trans rfl
             have hz2:W6.cell? ⟨gb220,2,none⟩=some (.int .i64 (wrap64 (rc - 1))):=(blk_cell B3.out 2).trans rfl
             have hz3:W6.cell? ⟨gb220,3,none⟩=some (.int .i64 rq):=(blk_cell B3.out 3).trans rfl
             have hz4:W6.cell? ⟨gb220,4,none⟩=some (.slice none 0 0):=(blk_cell B3.out 4).trans rfl
             have hy0:W6.cell? ⟨gb198,0,none⟩=some (.int .i64 x199000_1):=(blk_cell B4.out 0).trans rfl
             have hg0:=blk_frozen B4.out 0
             have hy1:W6.cell? ⟨gb198,1,none⟩=some (.int .i64 x199001_1):=(blk_cell B4.out 1).trans rfl
             have hg1:=blk_frozen B4.out 1
             have hy2:W6.cell? ⟨gb198,2,none⟩=some (.int .i64 x199002_1):=(blk_cell B4.out 2).trans rfl
             have hg2:=blk_frozen B4.out 2
             have hy3:W6.cell? ⟨gb198,3,none⟩=some (.int .i64 x199003_1):=(blk_cell B4.out 3).trans rfl
             have hg3:=blk_frozen B4.out 3
             have hy4:W6.cell? ⟨gb198,4,none⟩=some (.slice none 0 0):=(blk_cell B4.out 4).trans rfl
             have hg4:=blk_frozen B4.out 4
             generalize x4_1.length=n4
             go_wp2_with (first|((with_reducible refine gate_dst (N:=99) rfl ?_);refine Kd.event_run rfl (load41 B3.out (p:=.tmp 10) rfl rfl) ?_)|((with_reducible refine gate_store (t:=41) (p:=2) (v:=.tmp 99) rfl ?_);refine store_run rfl rfl (store41 B4.out (p:=.tmp 2) (u:=.tmp 99) rfl rfl rfl) ?_))
             refine bodyPost_ret (results_ct rfl _ _ gb198 41 #[.int .i64 (wrap64 (ra - 1)),.int .i64 rb,.int .i64 (wrap64 (rc - 1)),.int .i64 rq,.slice none 0 0] (0,0) _ rfl (five_blk B4.out _ _ _ _ _) Tryd.underlying41 rfl (by kernel_rfl)) rfl ?_
             exact ⟨_,by first|rfl|(simp;done),Kd.R_nil _ _ _ _ _,by repeat (first|exact HB6.out|refine below_set ?_ GE198.out)⟩
            ·as_aux_lemma =>
             rw [if_pos hbb,if_neg hdd] at HQ
             simp only [Option.some.injEq,Prod.mk.injEq] at HQ
             obtain ⟨rfl,rfl,rfl,rfl,rfl,rfl⟩:=HQ
             have fb:decide (0<rb)=true:=decide_eq_true hbb
             have fd:decide (0<rq)=false:=decide_eq_false hdd
             clear hbb hdd
             go_upto_region 23 with (fail)
             have B3:=Aside0.mk (blk_put B2.out 0 (.int .i64 (wrap64 (ra - 1))) rfl)
             have B4:=Aside0.mk (blk_far B1.out (p:=⟨gb220,0,none⟩) HN (.int .i64 (wrap64 (ra - 1))))
             have HB6:=Aside0.mk (below_set HB5.out GE220.out (j:=0) (v:=.int .i64 (wrap64 (ra - 1))))
             clear hz0 hz1 hz2 hz3 hz4 hf0 hf2 hy0 hy1 hy2 hy3 hy4 hg0 hg1 hg2 hg3 hg4 fb fd
             generalize (World.setCell W5 ⟨gb220,0,none⟩ (.int .i64 (wrap64 (ra - 1))))=W6 at B3 B4 HB6 ⊢
             have hz0:W6.cell? ⟨gb220,0,none⟩=some (.int .i64 (wrap64 (ra - 1))):=(blk_cell B3.out 0).trans rfl
             have hz1:W6.cell? ⟨gb220,1,none⟩=some (.int .i64 rb):=(blk_cell B3.out 1).trans rfl
             have hz2:W6.cell? ⟨gb220,2,none⟩=some (.int .i64 rc):=(blk_cell B3.out 2).trans rfl
             have hz3:W6.cell? ⟨gb220,3,none⟩=some (.int .i64 rq):=(blk_cell B3.out 3).trans rfl
             have hz4:W6.cell? ⟨gb220,4,none⟩=some (.slice none 0 0):=(blk_cell B3.out 4).trans rfl
             have hy0:W6.cell? ⟨gb198,0,none⟩=some (.int .i64 x199000_1):=(blk_cell B4.out 0).trans rfl
             have hg0:=blk_frozen B4.out 0
             have hy1:W6.cell? ⟨gb198,1,none⟩=some (.int .i64 x199001_1):=(blk_cell B4.out 1).trans rfl
             have hg1:=blk_frozen B4.out 1
             have hy2:W6.cell? ⟨gb198,2,none⟩=some (.int .i64 x199002_1):=(blk_cell B4.out 2).trans rfl
             have hg2:=blk_frozen B4.out 2
             have hy3:W6.cell? ⟨gb198,3,none⟩=some (.int .i64 x199003_1):=(blk_cell B4.out 3).trans rfl
             have hg3:=blk_frozen B4.out 3
             have hy4:W6.cell? ⟨gb198,4,none⟩=some (.slice none 0 0):=(blk_cell B4.out 4).trans rfl
             have hg4:=blk_frozen B4.out 4
             generalize x4_1.length=n4
             go_wp2_with (first|((with_reducible refine gate_dst (N:=99) rfl ?_);refine Kd.event_run rfl (load41 B3.out (p:=.tmp 10) rfl rfl) ?_)|((with_reducible refine gate_store (t:=41) (p:=2) (v:=.tmp 99) rfl ?_);refine store_run rfl rfl (store41 B4.out (p:=.tmp 2) (u:=.tmp 99) rfl rfl rfl) ?_))
             refine bodyPost_ret (results_ct rfl _ _ gb198 41 #[.int .i64 (wrap64 (ra - 1)),.int .i64 rb,.int .i64 rc,.int .i64 rq,.slice none 0 0] (0,0) _ rfl (five_blk B4.out _ _ _ _ _) Tryd.underlying41 rfl (by kernel_rfl)) rfl ?_
             exact ⟨_,by first|rfl|(simp;done),Kd.R_nil _ _ _ _ _,by repeat (first|exact HB6.out|refine below_set ?_ GE198.out)⟩
           ·by_cases hdd:rq > 0
            ·as_aux_lemma =>
             rw [if_neg hbb,if_pos hdd] at HQ
             simp only [Option.some.injEq,Prod.mk.injEq] at HQ
             obtain ⟨rfl,rfl,rfl,rfl,rfl,rfl⟩:=HQ
             have fb:decide (0<rb)=false:=decide_eq_false hbb
             have fd:decide (0<rq)=true:=decide_eq_true hdd
             clear hbb hdd
             go_upto_region 23 with (fail)
             have B3:=Aside0.mk (blk_put B2.out 2 (.int .i64 (wrap64 (rc - 1))) rfl)
             have B4:=Aside0.mk (blk_far B1.out (p:=⟨gb220,2,none⟩) HN (.int .i64 (wrap64 (rc - 1))))
             have HB6:=Aside0.mk (below_set HB5.out GE220.out (j:=2) (v:=.int .i64 (wrap64 (rc - 1))))
             clear hz0 hz1 hz2 hz3 hz4 hf0 hf2 hy0 hy1 hy2 hy3 hy4 hg0 hg1 hg2 hg3 hg4 fb fd
             generalize (World.setCell W5 ⟨gb220,2,none⟩ (.int .i64 (wrap64 (rc - 1))))=W6 at B3 B4 HB6 ⊢
             have hz0:W6.cell? ⟨gb220,0,none⟩=some (.int .i64 ra):=(blk_cell B3.out 0).trans rfl
             have hz1:W6.cell? ⟨gb220,1,none⟩=some (.int .i64 rb):=(blk_cell B3.out 1).trans rfl
             have hz2:W6.cell? ⟨gb220,2,none⟩=some (.int .i64 (wrap64 (rc - 1))):=(blk_cell B3.out 2).trans rfl
             have hz3:W6.cell? ⟨gb220,3,none⟩=some (.int .i64 rq):=(blk_cell B3.out 3).trans rfl
             have hz4:W6.cell? ⟨gb220,4,none⟩=some (.slice none 0 0):=(blk_cell B3.out 4).trans rfl
             have hy0:W6.cell? ⟨gb198,0,none⟩=some (.int .i64 x199000_1):=(blk_cell B4.out 0).trans rfl
             have hg0:=blk_frozen B4.out 0
             have hy1:W6.cell? ⟨gb198,1,none⟩=some (.int .i64 x199001_1):=(blk_cell B4.out 1).trans rfl
             have hg1:=blk_frozen B4.out 1
             have hy2:W6.cell? ⟨gb198,2,none⟩=some (.int .i64 x199002_1):=(blk_cell B4.out 2).trans rfl
             have hg2:=blk_frozen B4.out 2
             have hy3:W6.cell? ⟨gb198,3,none⟩=some (.int .i64 x199003_1):=(blk_cell B4.out 3).trans rfl
             have hg3:=blk_frozen B4.out 3
             have hy4:W6.cell? ⟨gb198,4,none⟩=some (.slice none 0 0):=(blk_cell B4.out 4).trans rfl
             have hg4:=blk_frozen B4.out 4
             generalize x4_1.length=n4
             go_wp2_with (first|((with_reducible refine gate_dst (N:=99) rfl ?_);refine Kd.event_run rfl (load41 B3.out (p:=.tmp 10) rfl rfl) ?_)|((with_reducible refine gate_store (t:=41) (p:=2) (v:=.tmp 99) rfl ?_);refine store_run rfl rfl (store41 B4.out (p:=.tmp 2) (u:=.tmp 99) rfl rfl rfl) ?_))
             refine bodyPost_ret (results_ct rfl _ _ gb198 41 #[.int .i64 ra,.int .i64 rb,.int .i64 (wrap64 (rc - 1)),.int .i64 rq,.slice none 0 0] (0,0) _ rfl (five_blk B4.out _ _ _ _ _) Tryd.underlying41 rfl (by kernel_rfl)) rfl ?_
             exact ⟨_,by first|rfl|(simp;done),Kd.R_nil _ _ _ _ _,by repeat (first|exact HB6.out|refine below_set ?_ GE198.out)⟩
            ·as_aux_lemma =>
             rw [if_neg hbb,if_neg hdd] at HQ
             simp only [Option.some.injEq,Prod.mk.injEq] at HQ
             obtain ⟨rfl,rfl,rfl,rfl,rfl,rfl⟩:=HQ
             have fb:decide (0<rb)=false:=decide_eq_false hbb
             have fd:decide (0<rq)=false:=decide_eq_false hdd
             clear hbb hdd
             go_upto_region 23 with (fail)
             have B3:=Aside0.mk B2.out
             have B4:=Aside0.mk B1.out
             have HB6:=Aside0.mk HB5.out
             clear hz0 hz1 hz2 hz3 hz4 hf0 hf2 hy0 hy1 hy2 hy3 hy4 hg0 hg1 hg2 hg3 hg4 fb fd
             generalize W5=W6 at B3 B4 HB6 ⊢
             have hz0:W6.cell? ⟨gb220,0,none⟩=some (.int .i64 ra):=(blk_cell B3.out 0).trans rfl
             have hz1:W6.cell? ⟨gb220,1,none⟩=some (.int .i64 rb):=(blk_cell B3.out 1).trans rfl
             have hz2:W6.cell? ⟨gb220,2,none⟩=some (.int .i64 rc):=(blk_cell B3.out 2).trans rfl
             have hz3:W6.cell? ⟨gb220,3,none⟩=some (.int .i64 rq):=(blk_cell B3.out 3).trans rfl
             have hz4:W6.cell? ⟨gb220,4,none⟩=some (.slice none 0 0):=(blk_cell B3.out 4).trans rfl
             have hy0:W6.cell? ⟨gb198,0,none⟩=some (.int .i64 x199000_1):=(blk_cell B4.out 0).trans rfl
             have hg0:=blk_frozen B4.out 0
             have hy1:W6.cell? ⟨gb198,1,none⟩=some (.int .i64 x199001_1):=(blk_cell B4.out 1).trans rfl
             have hg1:=blk_frozen B4.out 1
             have hy2:W6.cell? ⟨gb198,2,none⟩=some (.int .i64 x199002_1):=(blk_cell B4.out 2).trans rfl
             have hg2:=blk_frozen B4.out 2
             have hy3:W6.cell? ⟨gb198,3,none⟩=some (.int .i64 x199003_1):=(blk_cell B4.out 3).trans rfl
             have hg3:=blk_frozen B4.out 3
             have hy4:W6.cell? ⟨gb198,4,none⟩=some (.slice none 0 0):=(blk_cell B4.out 4).trans rfl
             have hg4:=blk_frozen B4.out 4
             generalize x4_1.length=n4
             go_wp2_with (first|((with_reducible refine gate_dst (N:=99) rfl ?_);refine Kd.event_run rfl (load41 B3.out (p:=.tmp 10) rfl rfl) ?_)|((with_reducible refine gate_store (t:=41) (p:=2) (v:=.tmp 99) rfl ?_);refine store_run rfl rfl (store41 B4.out (p:=.tmp 2) (u:=.tmp 99) rfl rfl rfl) ?_))
             refine bodyPost_ret (results_ct rfl _ _ gb198 41 #[.int .i64 ra,.int .i64 rb,.int .i64 rc,.int .i64 rq,.slice none 0 0] (0,0) _ rfl (five_blk B4.out _ _ _ _ _) Tryd.underlying41 rfl (by kernel_rfl)) rfl ?_
             exact ⟨_,by first|rfl|(simp;done),Kd.R_nil _ _ _ _ _,by repeat (first|exact HB6.out|refine below_set ?_ GE198.out)⟩
          ·rw [if_neg c42] at H
           exact absurd H (by simp)
         ·rw [if_neg c41] at H
          exact absurd H (by simp)
        ·rw [if_neg c40] at H
         exact absurd H (by simp)
       ·rw [if_neg c39] at H
        exact absurd H (by simp)

end Go.Proofs.YtamojbfmphainaaDoor.Pr
-- shrunk
