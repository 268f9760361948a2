-- written by a program of this session's (a turned copy of the kit's printer); Lean checks it
import Derived.Test.YtamojbfmphainaaDoorK0
import Derived.Test.YtamojbfmphainaaDoorD12
import Derived.Test.YtamojbfmphainaaDoorK4
import Derived.Test.YtamojbfmphainaaDoorK2
set_option linter.unusedVariables false
set_option linter.unusedSimpArgs false
namespace Go.Proofs.YtamojbfmphainaaDoor.Pr
open Go.RowKit Go.Proofs.YtamojbfmphainaaDoorW.PrintWords Go.Proofs.YtamojbfmphainaaDoorW.PrintLast Go.Proofs.YtamojbfmphainaaDoorW.PrintMore
attribute [local go_sem] max2_int min2_int max_two min_two max_three min_three max_four min_four   -- for this text's walks alone

mutual
def r06_Parse.l0:Nat→List ByteArray→List (S41)→Int→Option ((List (S41)) × Int × Int)
 | 0,_,_,_=>none
 | k+1,x5,x6,x7=>if x7<(x5.length:Int) then (if 0≤x7 then ((r06_head.f k (rdOf ByteArray.empty x5 x7)).bind fun bt239=>(if bt239.2.2.2.2.2=true then (r06_Parse.l1 k x5 x6 (wrap64 (x7+1)) bt239.1 bt239.2.1 bt239.2.2.1 bt239.2.2.2.1 bt239.2.2.2.2.1) else (some (([]:List (S41)),wrap64 (x7+1),3)))) else (none)) else (some (x6,0,0))
def r06_Parse.l1:Nat→List ByteArray→List (S41)→Int→Int→Int→Int→Int→List ByteArray→Option ((List (S41)) × Int × Int)
 | 0,_,_,_,_,_,_,_,_=>none
 | k+1,x5,x6,x7,x248000,x248001,x248002,x248003,x248004=>(r05_Many.f k x248004 45).bind fun t248=>(if t248<x248001 then (r06_Parse.j2 k x5 x6 x7 true x248000 x248001 x248002 x248003 x248004) else ((r05_Many.f k x248004 43).bind fun t249=>(r06_Parse.j2 k x5 x6 x7 (decide (t249<x248003)) x248000 x248001 x248002 x248003 x248004)))
def r06_Parse.j2:Nat→List ByteArray→List (S41)→Int→Bool→Int→Int→Int→Int→List ByteArray→Option ((List (S41)) × Int × Int)
 | 0,_,_,_,_,_,_,_,_,_=>none
 | k+1,x5,x6,x7,x45,x248000,x248001,x248002,x248003,x248004=>if x45=true then (if x7=(x5.length:Int) then (some (([]:List (S41)),wrap64 (x7+1),2)) else (if 0≤x7 then (if x7<(x5.length:Int) then ((r06_fits.f k x248000 x248001 x248002 x248003 x248004 (rdOf ByteArray.empty x5 x7)).bind fun t254=>(if t254=true then (if x248004.length<8796093022208 then ((some (x248004++[rdOf ByteArray.empty x5 x7]:List ByteArray)).bind fun y256=>(if (wrap64 (x7+1))<(x5.length:Int) then (if 0≤(wrap64 (x7+1)) then ((r06_mark.f).bind fun t260=>(if (rdOf ByteArray.empty x5 (wrap64 (x7+1))).toList=t260.toList then (if 0≤(wrap64 ((y256.length:Int) - 1)) then (if (wrap64 ((y256.length:Int) - 1))<(y256.length:Int) then (if 0≤(wrap64 (((rdOf ByteArray.empty y256 (wrap64 ((y256.length:Int) - 1))).size:Int) - 1)) then (if (wrap64 (((rdOf ByteArray.empty y256 (wrap64 ((y256.length:Int) - 1))).size:Int) - 1))≤((rdOf ByteArray.empty y256 (wrap64 ((y256.length:Int) - 1))).size:Int) then (r06_Parse.l1 k x5 x6 (wrap64 ((wrap64 (x7+1))+1)) x248000 x248001 x248002 x248003 (y256.set ((wrap64 ((y256.length:Int) - 1)):Int).toNat ((rdOf ByteArray.empty y256 (wrap64 ((y256.length:Int) - 1))).extract 0 ((wrap64 (((rdOf ByteArray.empty y256 (wrap64 ((y256.length:Int) - 1))).size:Int) - 1)):Int).toNat))) else (none)) else (none)) else (none)) else (none)) else (r06_Parse.l1 k x5 x6 (wrap64 (x7+1)) x248000 x248001 x248002 x248003 y256))) else (none)) else (r06_Parse.l1 k x5 x6 (wrap64 (x7+1)) x248000 x248001 x248002 x248003 y256))) else (none)) else (some (([]:List (S41)),wrap64 (x7+1),3)))) else (none)) else (none))) else (if x6.length<2513169434916 then (r06_Parse.l0 k x5 (x6++[(⟨x248000,x248001,x248002,x248003,x248004⟩:S41)]) x7) else (none))
end
def r06_Parse.f (k:Nat) (a0:ByteArray):Option ((List (S41)) × Int × Int):=(r03_Split.f k a0).bind fun t235=>(r06_Parse.l0 k t235 ([]:List (S41)) 0)
def r06_Parse.T9:Bool × List (List Nat × List Nat):=(true,[([],[]),([0],[0]),([1],[1]),([],[]),([3],[3]),([2,4],[2,4]),([5,2],[5]),([6],[6]),([7,6],[6,7]),([8,6,6],[6,8]),([6],[6]),([10,6],[6,10]),([9,11,6],[6,9,11]),([6,12],[6,12])])
def r06_Parse.B9:List Nat:=[0,1,3,0,8,31,63,127,255,511,127,1151,4095,8191]
theorem r06_Parse.tab9:rtab .any (opsOf Tryd.f13 9)=r06_Parse.T9:=by kernel_rfl
theorem r06_Parse.bits9:waitsOk r06_Parse.T9.2 r06_Parse.B9=true:=by kernel_rfl
def r06_Parse.T15:Bool × List (List Nat × List Nat):=(true,[([],[]),([0],[0]),([],[]),([],[]),([2,3],[2,3]),([4],[4]),([5],[5]),([1,6],[1,6]),([0,1,2,3,4,5,6,7],[]),([8,7,7,0,1,2,3,4,5,6,7],[7,8])])
def r06_Parse.B15:List Nat:=[0,1,0,0,12,28,60,127,255,511]
theorem r06_Parse.tab15:rtab .any (opsOf Tryd.f13 15)=r06_Parse.T15:=by kernel_rfl
theorem r06_Parse.bits15:waitsOk r06_Parse.T15.2 r06_Parse.B15=true:=by kernel_rfl
def r06_Parse.T17:Bool × List (List Nat × List Nat):=(true,[([],[]),([],[]),([1],[1]),([0,2],[0,2]),([3],[3]),([4],[4]),([4],[4]),([5,6,4],[4,5,6]),([7,4],[4,7]),([4,4],[4]),([8,9,4],[4,8,9]),([4,10],[4,10])])
def r06_Parse.B17:List Nat:=[0,0,2,7,15,31,31,127,255,31,1023,2047]
theorem r06_Parse.tab17:rtab .any (opsOf Tryd.f13 17)=r06_Parse.T17:=by kernel_rfl
theorem r06_Parse.bits17:waitsOk r06_Parse.T17.2 r06_Parse.B17=true:=by kernel_rfl
def r06_Parse.T19:Bool × List (List Nat × List Nat):=(true,[([],[]),([0],[0]),([],[]),([],[]),([3],[3]),([],[]),([4,5],[4,5]),([6],[6]),([],[]),([8],[8]),([],[]),([9,10],[9,10]),([11],[11]),([12],[12]),([13],[13]),([7,14],[7,14]),([1,2,0,1,2,3,4,5,6,7,8,9,10,11,12,13,14,15],[1,2]),([16,15,0,1,2,3,4,5,6,7,8,9,10,11,12,13,14,15],[15,16])])
def r06_Parse.B19:List Nat:=[0,1,0,0,8,0,56,120,0,256,0,1792,3840,7936,16128,32760,65535,131071]
theorem r06_Parse.tab19:rtab .any (opsOf Tryd.f13 19)=r06_Parse.T19:=by kernel_rfl
theorem r06_Parse.bits19:waitsOk r06_Parse.T19.2 r06_Parse.B19=true:=by kernel_rfl
set_option maxHeartbeats 8000000 in
set_option maxRecDepth 100000 in
theorem r06_Parse.calls (k:Nat) (a0:ByteArray) (r1:List (S41)) (r2:Int) (r3:Int) (w:World) (h:r06_Parse.f k a0=some (r1,r2,r3)) :
  Calls Tryd.prog 13 #[.string a0] w fun e w'=>∃ v0_:Value,e=.returned (.tuple #[v0_,.int .i64 r2,.int .i64 r3])∧Kd.S k41 41 w' w.heap.size (fun _=>True) v0_ r1∧Below w.heap.size w w':=by
 have hu41:=Tryd.underlying41
 have HB:=Aside0.mk (Below.refl w.heap.size w)
 have H:((r03_Split.f k a0).bind fun t235=>(r06_Parse.l0 k t235 ([]:List (S41)) 0))=some (r1,r2,r3):=h
 clear h
 replace H:=Option.bind_eq_some_iff.mp H
 obtain ⟨t235,A20,H⟩:=H
 replace H:(r06_Parse.l0 k t235 ([]:List (S41)) 0)=some (r1,r2,r3):=H
 have A2:=Aside0.mk A20
 clear A20
 have H':=Aside0.mk H
 clear H
 go_enter Tryd.func13,Tryd.ntmps13
 go_wp2_with (first|((with_reducible refine gate_callee (f:=34) rfl ?_);refine goesL_ (some 13) rfl rfl Tryd.func34 (by kernel_rfl) rfl #[.string a0] rfl (by (try simp only [List.map_toArray,List.map_cons,List.map_nil]);first|done|rfl|(simp only [List.length_drop,List.length_take];rfl)) ?_;(with_reducible refine (r03_Split.calls k a0 t235 _ A2.out).mono ?_);rintro e w3 ⟨v236,rfl,ho0,hb⟩;refine ⟨_,rfl,?_⟩;have n0_:=Aside0.mk (Kd.R_lower ho0 (below_size (by repeat (first|(with_reducible first|exact HB.out|apply below_alloc|apply pw_below_drewN|apply below_drew1)|exact HB.out))));have n1_:=Aside0.mk (below_step (by repeat (first|(with_reducible first|exact HB.out|apply below_alloc|apply pw_below_drewN|apply below_drew1)|exact HB.out)) hb);clear HB;have HO237:=n0_;have HB:=n1_;clear n0_ n1_;(try clear hb);(try clear hb2);(try clear hk);(try clear hi);(try clear ho0)))
 go_loopg [6,7] k (fun kq v6 v7 w'=>∃ (x5_1:List ByteArray) (x6_1:List (S41)) (x7_1:Int),v7=.int .i64 x7_1∧Aside0 (r06_Parse.l0 kq x5_1 x6_1 x7_1=some (r1,r2,r3))∧Aside0 (kq≤k)∧Aside0 (Kd.R Kd.string 9 w' w.heap.size (fun _=>True) v236 x5_1)∧Aside0 (Kd.S k41 41 w' w.heap.size (fun k_=>some k_≠(v236:Value).ownBlock) v6 x6_1)∧Aside0 (Below w.heap.size w w'))
 case atStart=>exact ⟨(t235),(([]:List (S41))),(0),(by first|rfl|(simp;done)|(simp [*];done)),H',⟨Nat.le_refl _⟩,⟨by (with_reducible repeat (first|apply Kd.R_alloc|apply Kd.R_drewN|apply Kd.R_drew));exact HO237.out⟩,⟨by first|exact Kd.S_nil _ _ _ _ _|exact Kd.N_nil _ _ _ _ _|exact Kd.V_nil _ _ _ _ _|exact Kd.Q_nil _ _ _ _ _|exact Kd.R_nil _ _ _ _ _⟩,⟨by repeat (first|(with_reducible first|exact HB.out|apply below_alloc|apply pw_below_drewN|apply below_drew1)|exact HB.out)⟩⟩
 case round =>
  clear H'
  try clear c1
  try clear p2
  try clear c3
  obtain ⟨x5_1,x6_1,x7_1,rfl,HA,HK1,HO_5,HO_6,HB⟩:=hrel
  cases gk with
  | zero=>exact absurd HA.out (by simp [r06_Parse.l0])
  | succ k1 =>
   have H:=HA.out
   clear HA
   simp only [r06_Parse.l0] at H
   by_cases c4:x7_1<(x5_1.length:Int)
   ·rw [if_pos c4] at H
    have c4b0:decide (x7_1<(x5_1.length:Int))=true:=decide_eq_true c4
    clear c4
    by_cases c5:0≤x7_1
    ·rw [if_pos c5] at H
     have c5b0:decide (0≤x7_1)=true:=decide_eq_true c5
     clear c5
     replace H:=Option.bind_eq_some_iff.mp H
     obtain ⟨⟨t239,t240,t241,t242,t243,t246⟩,A60,H⟩:=H
     replace H:(if t246=true then (r06_Parse.l1 k1 x5_1 x6_1 (wrap64 (x7_1+1)) t239 t240 t241 t242 t243) else (some (([]:List (S41)),wrap64 (x7_1+1),3)))=some (r1,r2,r3):=H
     have A6:=Aside0.mk A60
     clear A60
     by_cases c7:t246=true
     ·subst c7
      have H1:(r06_Parse.l1 k1 x5_1 x6_1 (wrap64 (x7_1+1)) t239 t240 t241 t242 t243)=some (r1,r2,r3):=by rw [if_pos rfl] at H;exact H
      clear H
      have H:=H1
      clear H1
      have H':=Aside0.mk H
      clear H
      obtain ⟨Ao8,co8,eo8⟩:=Kd.R_slice HO_5.out
      subst eo8
      have p238:0≤(x7_1:Int):=of_decide_eq_true (by first|(with_reducible assumption)|assumption)
      have q238:x7_1<(x5_1.length:Int):=of_decide_eq_true (by first|(with_reducible assumption)|assumption)
      obtain ⟨ad238,e238,hx238_0⟩:=Kd.at_string (Kd.R_reads' HO_5.out).2.2 x7_1 p238 q238
      cases e238
      replace p238:=eq_true p238
      replace q238:=eq_true q238
      go_wp2_with (first|((with_reducible refine gate_callee (f:=35) rfl ?_);refine goesL_ (some 23) rfl rfl Tryd.func35 (by kernel_rfl) rfl #[.string (rdOf ByteArray.empty x5_1 x7_1)] rfl (by (try simp only [List.map_toArray,List.map_cons,List.map_nil]);first|done|rfl|(simp only [List.length_drop,List.length_take];rfl)) ?_;(with_reducible refine (r06_head.calls k1 (rdOf ByteArray.empty x5_1 x7_1) t239 t240 t241 t242 t243 true _ A6.out).mono ?_);rintro e w9 ⟨v244,rfl,ho0,hb⟩;refine ⟨_,rfl,?_⟩;have n0_:=Aside0.mk (Kd.R_elder' (by (with_reducible repeat (first|apply Kd.R_alloc|apply Kd.R_drewN|apply Kd.R_drew));exact HO_5.out) (Kd.R_base ho0) hb);have n1_:=Aside0.mk (Kd.S_elder' (by (with_reducible repeat (first|apply Kd.S_alloc|apply Kd.S_drewN|apply Kd.S_drew));exact HO_6.out) (Kd.R_base ho0) hb);have n2_:=Aside0.mk (Kd.R_lower (Kd.R_new' ho0 (Kd.R_lt (by (with_reducible repeat (first|apply Kd.R_alloc|apply Kd.R_drewN|apply Kd.R_drew));exact HO_5.out))) (below_size (by repeat (first|(with_reducible first|exact HB.out|apply below_alloc|apply pw_below_drewN|apply below_drew1)|exact HB.out))));have n3_:=Aside0.mk (below_step (by repeat (first|(with_reducible first|exact HB.out|apply below_alloc|apply pw_below_drewN|apply below_drew1)|exact HB.out)) hb);clear HO_5;clear HO_6;clear HB;have HO_5:=n0_;have HO_6:=n1_;have HO245:=n2_;have HB:=n3_;clear n0_ n1_ n2_ n3_;(try clear hb);(try clear hb2);(try clear hk);(try clear hi);(try clear ho0))|((with_reducible refine gate_dst (N:=8) rfl ?_);refine box_event ?hg (N:=8) ?hd (cs:=#[.int .i64 0,.int .i64 0,.int .i64 0,.int .i64 0,.slice none 0 0]) (t:=41) ?hr ?_;(case hd=>rfl);(case hg=>rfl);(case hr=>first|(go_simp;done)|(go_simp;rfl));intro gb247 hg w10 hbox hb;have n0_:=Aside0.mk (Kd.R_below (by (with_reducible repeat (first|apply Kd.R_alloc|apply Kd.R_drewN|apply Kd.R_drew));exact HO_5.out) hb);have n1_:=Aside0.mk (Kd.S_below (Kd.S_elderB (by (with_reducible repeat (first|apply Kd.S_alloc|apply Kd.S_drewN|apply Kd.S_drew));exact HO_6.out) gb247 (Nat.le_of_eq hg.symm)) hb);have n2_:=Aside0.mk (Kd.R_below (by (with_reducible repeat (first|apply Kd.R_alloc|apply Kd.R_drewN|apply Kd.R_drew));exact HO245.out) hb);have n3_:=Aside0.mk (below_step (by repeat (first|(with_reducible first|exact HB.out|apply below_alloc|apply pw_below_drewN|apply below_drew1)|exact HB.out)) hb);have n4_:=Aside0.mk (hbox);have n5_:=Aside0.mk ((by rw [hg];exact (below_size (by repeat (first|(with_reducible first|exact HB.out|apply below_alloc|apply pw_below_drewN|apply below_drew1)|exact HB.out))):w.heap.size≤gb247));have n6_:=Aside0.mk ((by rw [hg];exact (below_size (by repeat (first|(with_reducible first|exact HB.out|apply below_alloc|apply pw_below_drewN|apply below_drew1)|exact HB.out))):w.heap.size≤gb247));clear HO_5;clear HO_6;clear HO245;clear HB;have HO_5:=n0_;have HO_6:=n1_;have HO245:=n2_;have HB:=n3_;have BK247:=n4_;have GW247:=n5_;have GE247:=n6_;clear n0_ n1_ n2_ n3_ n4_ n5_ n6_;clear hb hbox hg;have hcz11_0:w10.cell? ⟨gb247,0,none⟩=some (.int .i64 0):=(blk_cell BK247.out 0).trans rfl;have hcz11_1:w10.cell? ⟨gb247,1,none⟩=some (.int .i64 0):=(blk_cell BK247.out 1).trans rfl;have hcz11_2:w10.cell? ⟨gb247,2,none⟩=some (.int .i64 0):=(blk_cell BK247.out 2).trans rfl;have hcz11_3:w10.cell? ⟨gb247,3,none⟩=some (.int .i64 0):=(blk_cell BK247.out 3).trans rfl;have hcz11_4:w10.cell? ⟨gb247,4,none⟩=some (.slice none 0 0):=(blk_cell BK247.out 4).trans rfl;have hfz11_0:=blk_frozen BK247.out 0;have hfz11_1:=blk_frozen BK247.out 1;have hfz11_2:=blk_frozen BK247.out 2;have hfz11_3:=blk_frozen BK247.out 3;have hfz11_4:=blk_frozen BK247.out 4;obtain ⟨Ao12,co12,eo12⟩:=Kd.R_slice HO245.out;subst eo12))
      go_loopg [7] k1 (fun kq v7 w'=>∃ (x5_2:List ByteArray) (x7_2:Int) (x248004_2:List ByteArray) (u248004:Value),v7=.int .i64 x7_2∧Aside0 (r06_Parse.l1 kq x5_2 x6_1 x7_2 t239 t240 t241 t242 x248004_2=some (r1,r2,r3))∧Aside0 (kq≤k1)∧Aside0 (Kd.R Kd.string 9 w' w.heap.size (fun k_=>some k_≠(u248004:Value).ownBlock) (.slice (some ad238) x5_1.length co8) x5_2)∧Aside0 (Kd.S k41 41 w' w.heap.size (fun k_=>some k_≠((.slice (some ad238) x5_1.length co8):Value).ownBlock∧some k_≠(u248004:Value).ownBlock∧k_≠gb247) u6 x6_1)∧Aside0 (Kd.R Kd.string 9 w' w.heap.size (fun k_=>some k_≠((.slice (some ad238) x5_1.length co8):Value).ownBlock) u248004 x248004_2)∧Aside0 (w'.heap[gb247]?=some (.cells #[.int .i64 t239,.int .i64 t240,.int .i64 t241,.int .i64 t242,u248004] 41 (0,0)))∧Aside0 (Below w.heap.size w w'))
      case atStart=>exact ⟨(x5_1),(wrap64 (x7_1+1)),(t243),(.slice Ao12 t243.length co12),(by first|rfl|(simp;done)|(simp [*];done)),H',⟨Nat.le_refl _⟩,⟨by (with_reducible repeat (first|apply Kd.R_alloc|apply Kd.R_drewN|apply Kd.R_drew));exact Kd.R_mono (Kd.R_far (p:=⟨gb247,4,none⟩) (Kd.R_far (p:=⟨gb247,3,none⟩) (Kd.R_far (p:=⟨gb247,2,none⟩) (Kd.R_far (p:=⟨gb247,1,none⟩) (Kd.R_far (p:=⟨gb247,0,none⟩) (Kd.R_types HO_5.out BK247.out (by decide)) (fun _ hk=>hk.2) (.int .i64 t239)) (fun _ hk=>hk.2) (.int .i64 t240)) (fun _ hk=>hk.2) (.int .i64 t241)) (fun _ hk=>hk.2) (.int .i64 t242)) (fun _ hk=>hk.2) (.slice Ao12 t243.length co12)) (fun _ hk=>hk.1.2)⟩,⟨by (with_reducible repeat (first|apply Kd.S_alloc|apply Kd.S_drewN|apply Kd.S_drew));exact Kd.S_mono (Kd.S_far (p:=⟨gb247,4,none⟩) (Kd.S_far (p:=⟨gb247,3,none⟩) (Kd.S_far (p:=⟨gb247,2,none⟩) (Kd.S_far (p:=⟨gb247,1,none⟩) (Kd.S_far (p:=⟨gb247,0,none⟩) (Kd.S_mono HO_6.out (fun k_ hk=>(⟨hk,hk.2⟩:_∧k_≠gb247))) (fun _ hk=>hk.2) (.int .i64 t239)) (fun _ hk=>hk.2) (.int .i64 t240)) (fun _ hk=>hk.2) (.int .i64 t241)) (fun _ hk=>hk.2) (.int .i64 t242)) (fun _ hk=>hk.2) (.slice Ao12 t243.length co12)) (fun _ hk=>⟨hk.1.1.1,⟨hk.1.1.2,hk.1.2⟩⟩)⟩,⟨by (with_reducible repeat (first|apply Kd.R_alloc|apply Kd.R_drewN|apply Kd.R_drew));exact Kd.R_mono (Kd.R_far (p:=⟨gb247,4,none⟩) (Kd.R_far (p:=⟨gb247,3,none⟩) (Kd.R_far (p:=⟨gb247,2,none⟩) (Kd.R_far (p:=⟨gb247,1,none⟩) (Kd.R_far (p:=⟨gb247,0,none⟩) (Kd.R_types HO245.out BK247.out (by decide)) (fun _ hk=>hk.2) (.int .i64 t239)) (fun _ hk=>hk.2) (.int .i64 t240)) (fun _ hk=>hk.2) (.int .i64 t241)) (fun _ hk=>hk.2) (.int .i64 t242)) (fun _ hk=>hk.2) (.slice Ao12 t243.length co12)) (fun _ hk=>hk.1.2)⟩,⟨by (with_reducible repeat (first|refine blk_drewN ?_ _|refine blk_drew ?_|refine blk_alloc ?_ _));refine blk_put (cs:=#[.int .i64 t239,.int .i64 t240,.int .i64 t241,.int .i64 t242,.slice none 0 0]) ?_ 4 _ rfl;(with_reducible repeat (first|refine blk_drewN ?_ _|refine blk_drew ?_|refine blk_alloc ?_ _));refine blk_put (cs:=#[.int .i64 t239,.int .i64 t240,.int .i64 t241,.int .i64 0,.slice none 0 0]) ?_ 3 _ rfl;(with_reducible repeat (first|refine blk_drewN ?_ _|refine blk_drew ?_|refine blk_alloc ?_ _));refine blk_put (cs:=#[.int .i64 t239,.int .i64 t240,.int .i64 0,.int .i64 0,.slice none 0 0]) ?_ 2 _ rfl;(with_reducible repeat (first|refine blk_drewN ?_ _|refine blk_drew ?_|refine blk_alloc ?_ _));refine blk_put (cs:=#[.int .i64 t239,.int .i64 0,.int .i64 0,.int .i64 0,.slice none 0 0]) ?_ 1 _ rfl;(with_reducible repeat (first|refine blk_drewN ?_ _|refine blk_drew ?_|refine blk_alloc ?_ _));refine blk_put (cs:=#[.int .i64 0,.int .i64 0,.int .i64 0,.int .i64 0,.slice none 0 0]) ?_ 0 _ rfl;(with_reducible repeat (first|refine blk_drewN ?_ _|refine blk_drew ?_|refine blk_alloc ?_ _));exact BK247.out⟩,⟨by repeat (first|(with_reducible first|exact HB.out|apply below_alloc|apply pw_below_drewN|apply below_drew1|refine below_set ?_ GE247.out)|exact HB.out)⟩⟩
      case round =>
       clear H'
       try clear c1
       try clear p2
       try clear q2
       try clear hx2
       try clear c3
       try clear c4
       try clear c4b0
       try clear c5
       try clear c5b0
       try clear p6
       try clear c7
       try clear hcz11_0
       try clear hcz11_1
       try clear hcz11_2
       try clear hcz11_3
       try clear hcz11_4
       try clear hfz11_0
       try clear hfz11_1
       try clear hfz11_2
       try clear hfz11_3
       try clear hfz11_4
       try clear hx238_0
       try clear p2
       try clear p238
       try clear q238
       obtain ⟨x5_2,x7_2,x248004_2,u248004,rfl,HA,HK2,HO_5,HO_6,HO_248004,BK247,HB⟩:=hrel
       have hl5_2:=(Kd.R_reads' HO_5.out).1
       rw [hl5_2] at HO_5
       (try simp only [hl5_2])
       (try simp only [hl5_2] at BK247)
       (try simp only [hl5_2] at HO_6)
       (try simp only [hl5_2] at HO_248004)
       cases gk with
       | zero=>exact absurd HA.out (by simp [r06_Parse.l1])
       | succ k2 =>
        have H:=HA.out
        clear HA
        simp only [r06_Parse.l1] at H
        have HC13:=Aside0.mk H
        clear H
        go_upto_region 9 with (fail)
        go_cut [45] (fun v45 wc=>∃ (kq:Nat) (x45_12:Bool),v45=.bool x45_12∧Aside0 (r06_Parse.j2 kq x5_2 x6_1 x7_2 x45_12 t239 t240 t241 t242 x248004_2=some (r1,r2,r3))∧Aside0 (kq≤k2)∧Aside0 (Kd.R Kd.string 9 wc w.heap.size (fun k_=>some k_≠(u248004:Value).ownBlock) (.slice (some ad238) x5_2.length co8) x5_2)∧Aside0 (Kd.S k41 41 wc w.heap.size (fun k_=>some k_≠((.slice (some ad238) x5_2.length co8):Value).ownBlock∧some k_≠(u248004:Value).ownBlock∧k_≠gb247) u6 x6_1)∧Aside0 (Kd.R Kd.string 9 wc w.heap.size (fun k_=>some k_≠((.slice (some ad238) x5_2.length co8):Value).ownBlock) u248004 x248004_2)∧Aside0 (wc.heap[gb247]?=some (.cells #[.int .i64 t239,.int .i64 t240,.int .i64 t241,.int .i64 t242,u248004] 41 (0,0)))∧Aside0 (Below w.heap.size w wc))
        case first =>
         have H:=HC13.out
         clear HC13
         replace H:=Option.bind_eq_some_iff.mp H
         obtain ⟨t248,A140,H⟩:=H
         replace H:(if t248<t240 then (r06_Parse.j2 k2 x5_2 x6_1 x7_2 true t239 t240 t241 t242 x248004_2) else ((r05_Many.f k2 x248004_2 43).bind fun t249=>(r06_Parse.j2 k2 x5_2 x6_1 x7_2 (decide (t249<t242)) t239 t240 t241 t242 x248004_2)))=some (r1,r2,r3):=H
         have A14:=Aside0.mk A140
         clear A140
         by_cases c15:t248<t240
         ·rw [if_pos c15] at H
          have c15b0:decide (t248<t240)=true:=decide_eq_true c15
          clear c15
          (first|rw [c15b0]|(simp only [i64_w,i32_w];rw [c15b0])|skip)
          have H':=Aside0.mk H
          clear H
          try go_wp2
          have n0_:=Aside0.mk (Kd.R_drew HO_5.out)
          have n1_:=Aside0.mk (Kd.S_drew HO_6.out)
          have n2_:=Aside0.mk (Kd.R_drew HO_248004.out)
          have n3_:=Aside0.mk (blk_drew BK247.out)
          have n4_:=Aside0.mk (below_drew1 HB.out)
          clear HO_5
          clear HO_6
          clear HO_248004
          clear BK247
          clear HB
          have HO_5:=n0_
          have HO_6:=n1_
          have HO_248004:=n2_
          have BK247:=n3_
          have HB:=n4_
          clear n0_ n1_ n2_ n3_ n4_
          obtain ⟨Ao17,co17,eo17⟩:=Kd.R_slice HO_248004.out
          (first|subst eo17|(injection eo17 with f1_ f2_ f3_;have f4_:=f1_.symm;have f5_:=f3_.symm;clear f1_ f2_ f3_;subst f4_;subst f5_))
          refine start_ (n:=14) (S:=fun w'=>w'.cell? ⟨gb247,0,none⟩=some (.int .i64 t239)∧w'.cell? ⟨gb247,1,none⟩=some (.int .i64 t240)∧w'.cell? ⟨gb247,2,none⟩=some (.int .i64 t241)∧w'.cell? ⟨gb247,3,none⟩=some (.int .i64 t242)∧w'.cell? ⟨gb247,4,none⟩=some (.slice Ao17 x248004_2.length co17)) (ds:=[]) #[false,false,false,false,false,false,false,false,false,false,false,false,false,false] (by kernel_rfl) rfl rfl ⟨(blk_cell BK247.out 0).trans rfl,(blk_cell BK247.out 1).trans rfl,(blk_cell BK247.out 2).trans rfl,(blk_cell BK247.out 3).trans rfl,(blk_cell BK247.out 4).trans rfl⟩ (fun hHeld=>?_);refine with_tabW r06_Parse.tab9 r06_Parse.bits9 (fun HT_ HW_=>?_)
          generalize wr.drew=w16 at HO_5 HO_6 HO_248004 BK247 HB hHeld ⊢
          refine pure_ (i:=0) (N:=some 32) (v:=?_) (a':=?_) #[true,false,false,false,false,false,false,false,false,false,false,false,false,false] rfl rfl (any_of HT_.out (by kernel_rfl)) (fun _ _ _ h=>h) (Or.inl ⟨by rfl,?_⟩) ?_ ?_
          rotate_left
          ·intro w'
           go_simp
           with_reducible rfl
          rotate_left
          ·simp only [Act.put,List.setIfInBounds_toArray,List.set_cons_zero,List.set_cons_succ,i64_w,i32_w]
           rfl
          refine pure_ (i:=3) (N:=some 35) (v:=?_) (a':=?_) #[true,false,false,true,false,false,false,false,false,false,false,false,false,false] rfl rfl (any_of HT_.out (by kernel_rfl)) (fun _ _ _ h=>h) (Or.inl ⟨by rfl,?_⟩) ?_ ?_
          rotate_left
          ·intro w'
           go_simp
           with_reducible rfl
          rotate_left
          ·simp only [Act.put,List.setIfInBounds_toArray,List.set_cons_zero,List.set_cons_succ,i64_w,i32_w]
           rfl
          refine take_ (i:=1) (N:=some 33) (v:=?_) (a':=?_) #[true,true,false,true,false,false,false,false,false,false,false,false,false,false] rfl rfl (take_ofW HT_.out HW_.out (by kernel_rfl)) (fun _ _ _ h=>h) (Or.inl ⟨by rfl,?_⟩) hHeld ?_ ?_
          rotate_left
          ·rintro w' ⟨s0,s1,s2,s3,s4⟩
           go_simp
           with_reducible rfl
          rotate_left
          ·simp only [Act.put,List.setIfInBounds_toArray,List.set_cons_zero,List.set_cons_succ,i64_w,i32_w]
           rfl
          refine take_ (i:=4) (N:=some 36) (v:=?_) (a':=?_) #[true,true,false,true,true,false,false,false,false,false,false,false,false,false] rfl rfl (take_ofW HT_.out HW_.out (by kernel_rfl)) (fun _ _ _ h=>h) (Or.inl ⟨by rfl,?_⟩) hHeld ?_ ?_
          rotate_left
          ·rintro w' ⟨s0,s1,s2,s3,s4⟩
           go_simp
           with_reducible rfl
          rotate_left
          ·simp only [Act.put,List.setIfInBounds_toArray,List.set_cons_zero,List.set_cons_succ,i64_w,i32_w]
           rfl
          refine one_ (i:=2) (N:=some 34) #[true,true,true,true,true,false,false,false,false,false,false,false,false,false] rfl rfl (one_of HT_.out (by kernel_rfl)) (by decide) (fun K hK=>?_)
          refine goes_ Tryd.func36 (by kernel_rfl) rfl #[.slice Ao17 x248004_2.length co17,.int .u8 45] (by rfl) rfl rfl (by (try simp only [List.map_toArray,List.map_cons,List.map_nil]);first|done|rfl|(simp only [List.length_drop,List.length_take];rfl)) ?_
          with_reducible refine (r05_Many.calls k2 _ _ x248004_2 45 t248 _ ?side1 ?side2 A14.out).mono ?_
          (case side1=>repeat (first|exact (Kd.R_reads' HO_248004.out).2.2|(with_reducible refine Kd.C_alloc ?_ _)|(with_reducible refine Kd.C_drewN ?_ _)|(with_reducible refine Kd.C_drew ?_)))
          (case side2=>exact (Kd.R_reads' HO_248004.out).2.1)
          rintro e w' ⟨rfl,⟨nd,rfl⟩⟩
          refine ⟨_,rfl,?_⟩
          refine hK.out _ _ ⟨(blk_cell BK247.out 0).trans rfl,(blk_cell BK247.out 1).trans rfl,(blk_cell BK247.out 2).trans rfl,(blk_cell BK247.out 3).trans rfl,(blk_cell BK247.out 4).trans rfl⟩ (fun hHeld=>?_)
          clear hK K
          refine norm_ (a':=?_) ?_ ?_
          rotate_left
          ·show Act.put _ (some 34) _=_
           simp only [Act.put,List.setIfInBounds_toArray,List.set_cons_zero,List.set_cons_succ,i64_w,i32_w]
           rfl
          refine pure_ (i:=5) (N:=some 37) (v:=?_) (a':=?_) #[true,true,true,true,true,true,false,false,false,false,false,false,false,false] rfl rfl (any_of HT_.out (by kernel_rfl)) (fun _ _ _ h=>h) (Or.inl ⟨by rfl,?_⟩) ?_ ?_
          rotate_left
          ·intro w'
           go_simp
           with_reducible rfl
          rotate_left
          ·simp only [Act.put,List.setIfInBounds_toArray,List.set_cons_zero,List.set_cons_succ,i64_w,i32_w]
           rfl
          refine pure_ (i:=6) (N:=some 38) (v:=?_) (a':=?_) #[true,true,true,true,true,true,true,false,false,false,false,false,false,false] rfl rfl (any_of HT_.out (by kernel_rfl)) (fun _ _ _ h=>h) (Or.inl ⟨by rfl,?_⟩) ?_ ?_
          rotate_left
          ·intro w'
           go_simp
           with_reducible rfl
          rotate_left
          ·simp only [Act.put,List.setIfInBounds_toArray,List.set_cons_zero,List.set_cons_succ,i64_w,i32_w]
           rfl
          refine pure_ (i:=7) (N:=some 39) (v:=undef) (a':=?_) #[true,true,true,true,true,true,true,true,false,false,false,false,false,false] rfl rfl (any_of HT_.out (by kernel_rfl)) (fun _ _ _ h=>h) (Or.inr ⟨by rfl,rfl⟩) ?_ ?_
          rotate_left
          ·simp only [Act.put,List.setIfInBounds_toArray,List.set_cons_zero,List.set_cons_succ,i64_w,i32_w]
           rfl
          refine pure_ (i:=8) (N:=some 40) (v:=undef) (a':=?_) #[true,true,true,true,true,true,true,true,true,false,false,false,false,false] rfl rfl (any_of HT_.out (by kernel_rfl)) (fun _ _ _ h=>h) (Or.inr ⟨by rfl,rfl⟩) ?_ ?_
          rotate_left
          ·simp only [Act.put,List.setIfInBounds_toArray,List.set_cons_zero,List.set_cons_succ,i64_w,i32_w]
           rfl
          refine pure_ (i:=9) (N:=some 41) (v:=undef) (a':=?_) #[true,true,true,true,true,true,true,true,true,true,false,false,false,false] rfl rfl (any_of HT_.out (by kernel_rfl)) (fun _ _ _ h=>h) (Or.inr ⟨by rfl,rfl⟩) ?_ ?_
          rotate_left
          ·simp only [Act.put,List.setIfInBounds_toArray,List.set_cons_zero,List.set_cons_succ,i64_w,i32_w]
           rfl
          refine pure_ (i:=10) (N:=some 42) (v:=undef) (a':=?_) #[true,true,true,true,true,true,true,true,true,true,true,false,false,false] rfl rfl (any_of HT_.out (by kernel_rfl)) (fun _ _ _ h=>h) (Or.inr ⟨by rfl,rfl⟩) ?_ ?_
          rotate_left
          ·simp only [Act.put,List.setIfInBounds_toArray,List.set_cons_zero,List.set_cons_succ,i64_w,i32_w]
           rfl
          refine pure_ (i:=11) (N:=some 43) (v:=undef) (a':=?_) #[true,true,true,true,true,true,true,true,true,true,true,true,false,false] rfl rfl (any_of HT_.out (by kernel_rfl)) (fun _ _ _ h=>h) (Or.inr ⟨by rfl,rfl⟩) ?_ ?_
          rotate_left
          ·simp only [Act.put,List.setIfInBounds_toArray,List.set_cons_zero,List.set_cons_succ,i64_w,i32_w]
           rfl
          refine pure_ (i:=12) (N:=some 44) (v:=undef) (a':=?_) #[true,true,true,true,true,true,true,true,true,true,true,true,true,false] rfl rfl (any_of HT_.out (by kernel_rfl)) (fun _ _ _ h=>h) (Or.inr ⟨by rfl,rfl⟩) ?_ ?_
          rotate_left
          ·simp only [Act.put,List.setIfInBounds_toArray,List.set_cons_zero,List.set_cons_succ,i64_w,i32_w]
           rfl
          refine pure_ (i:=13) (N:=some 45) (v:=?_) (a':=?_) #[true,true,true,true,true,true,true,true,true,true,true,true,true,true] rfl rfl (any_of HT_.out (by kernel_rfl)) (fun _ _ _ h=>h) (Or.inl ⟨by rfl,?_⟩) ?_ ?_
          rotate_left
          ·intro w'
           go_simp
           with_reducible rfl
          rotate_left
          ·simp only [Act.put,List.setIfInBounds_toArray,List.set_cons_zero,List.set_cons_succ,i64_w,i32_w]
           rfl
          refine done_ (done_of HT_.out (by kernel_rfl)) ?_
          try go_wp2
          go_meet
          case rel=>exact ⟨_,(true),(by first|rfl|(simp;done)|(simp [*];done)),H',⟨by have:=HK1.out;have:=HK2.out;first|omega|exact Nat.le_refl _⟩,⟨by (try simp only [hl5_2]);(with_reducible repeat (first|apply Kd.R_alloc|apply Kd.R_drewN|apply Kd.R_drew));exact HO_5.out⟩,⟨by (try simp only [hl5_2]);(with_reducible repeat (first|apply Kd.S_alloc|apply Kd.S_drewN|apply Kd.S_drew));exact HO_6.out⟩,⟨by (try simp only [hl5_2]);(with_reducible repeat (first|apply Kd.R_alloc|apply Kd.R_drewN|apply Kd.R_drew));exact HO_248004.out⟩,⟨by (try simp only [hl5_2]);(with_reducible repeat (first|refine blk_drewN ?_ _|refine blk_drew ?_|refine blk_alloc ?_ _));exact BK247.out⟩,⟨by repeat (first|(with_reducible first|exact HB.out|apply below_alloc|apply pw_below_drewN|apply below_drew1|refine below_set ?_ GE247.out)|exact HB.out)⟩⟩
         ·rw [if_neg c15] at H
          have c15b0:decide (t248<t240)=false:=decide_eq_false c15
          clear c15
          (first|rw [c15b0]|(simp only [i64_w,i32_w];rw [c15b0])|skip)
          replace H:=Option.bind_eq_some_iff.mp H
          obtain ⟨t249,A180,H⟩:=H
          replace H:(r06_Parse.j2 k2 x5_2 x6_1 x7_2 (decide (t249<t242)) t239 t240 t241 t242 x248004_2)=some (r1,r2,r3):=H
          have A18:=Aside0.mk A180
          clear A180
          have H':=Aside0.mk H
          clear H
          try go_wp2
          have n0_:=Aside0.mk (Kd.R_drew HO_5.out)
          have n1_:=Aside0.mk (Kd.S_drew HO_6.out)
          have n2_:=Aside0.mk (Kd.R_drew HO_248004.out)
          have n3_:=Aside0.mk (blk_drew BK247.out)
          have n4_:=Aside0.mk (below_drew1 HB.out)
          clear HO_5
          clear HO_6
          clear HO_248004
          clear BK247
          clear HB
          have HO_5:=n0_
          have HO_6:=n1_
          have HO_248004:=n2_
          have BK247:=n3_
          have HB:=n4_
          clear n0_ n1_ n2_ n3_ n4_
          obtain ⟨Ao20,co20,eo20⟩:=Kd.R_slice HO_248004.out
          (first|subst eo20|(injection eo20 with f1_ f2_ f3_;have f4_:=f1_.symm;have f5_:=f3_.symm;clear f1_ f2_ f3_;subst f4_;subst f5_))
          refine start_ (n:=14) (S:=fun w'=>w'.cell? ⟨gb247,0,none⟩=some (.int .i64 t239)∧w'.cell? ⟨gb247,1,none⟩=some (.int .i64 t240)∧w'.cell? ⟨gb247,2,none⟩=some (.int .i64 t241)∧w'.cell? ⟨gb247,3,none⟩=some (.int .i64 t242)∧w'.cell? ⟨gb247,4,none⟩=some (.slice Ao20 x248004_2.length co20)) (ds:=[]) #[false,false,false,false,false,false,false,false,false,false,false,false,false,false] (by kernel_rfl) rfl rfl ⟨(blk_cell BK247.out 0).trans rfl,(blk_cell BK247.out 1).trans rfl,(blk_cell BK247.out 2).trans rfl,(blk_cell BK247.out 3).trans rfl,(blk_cell BK247.out 4).trans rfl⟩ (fun hHeld=>?_);refine with_tabW r06_Parse.tab9 r06_Parse.bits9 (fun HT_ HW_=>?_)
          generalize wr.drew=w19 at HO_5 HO_6 HO_248004 BK247 HB hHeld ⊢
          refine pure_ (i:=0) (N:=some 32) (v:=?_) (a':=?_) #[true,false,false,false,false,false,false,false,false,false,false,false,false,false] rfl rfl (any_of HT_.out (by kernel_rfl)) (fun _ _ _ h=>h) (Or.inl ⟨by rfl,?_⟩) ?_ ?_
          rotate_left
          ·intro w'
           go_simp
           with_reducible rfl
          rotate_left
          ·simp only [Act.put,List.setIfInBounds_toArray,List.set_cons_zero,List.set_cons_succ,i64_w,i32_w]
           rfl
          refine pure_ (i:=3) (N:=some 35) (v:=?_) (a':=?_) #[true,false,false,true,false,false,false,false,false,false,false,false,false,false] rfl rfl (any_of HT_.out (by kernel_rfl)) (fun _ _ _ h=>h) (Or.inl ⟨by rfl,?_⟩) ?_ ?_
          rotate_left
          ·intro w'
           go_simp
           with_reducible rfl
          rotate_left
          ·simp only [Act.put,List.setIfInBounds_toArray,List.set_cons_zero,List.set_cons_succ,i64_w,i32_w]
           rfl
          refine take_ (i:=1) (N:=some 33) (v:=?_) (a':=?_) #[true,true,false,true,false,false,false,false,false,false,false,false,false,false] rfl rfl (take_ofW HT_.out HW_.out (by kernel_rfl)) (fun _ _ _ h=>h) (Or.inl ⟨by rfl,?_⟩) hHeld ?_ ?_
          rotate_left
          ·rintro w' ⟨s0,s1,s2,s3,s4⟩
           go_simp
           with_reducible rfl
          rotate_left
          ·simp only [Act.put,List.setIfInBounds_toArray,List.set_cons_zero,List.set_cons_succ,i64_w,i32_w]
           rfl
          refine take_ (i:=4) (N:=some 36) (v:=?_) (a':=?_) #[true,true,false,true,true,false,false,false,false,false,false,false,false,false] rfl rfl (take_ofW HT_.out HW_.out (by kernel_rfl)) (fun _ _ _ h=>h) (Or.inl ⟨by rfl,?_⟩) hHeld ?_ ?_
          rotate_left
          ·rintro w' ⟨s0,s1,s2,s3,s4⟩
           go_simp
           with_reducible rfl
          rotate_left
          ·simp only [Act.put,List.setIfInBounds_toArray,List.set_cons_zero,List.set_cons_succ,i64_w,i32_w]
           rfl
          refine one_ (i:=2) (N:=some 34) #[true,true,true,true,true,false,false,false,false,false,false,false,false,false] rfl rfl (one_of HT_.out (by kernel_rfl)) (by decide) (fun K hK=>?_)
          refine goes_ Tryd.func36 (by kernel_rfl) rfl #[.slice Ao20 x248004_2.length co20,.int .u8 45] (by rfl) rfl rfl (by (try simp only [List.map_toArray,List.map_cons,List.map_nil]);first|done|rfl|(simp only [List.length_drop,List.length_take];rfl)) ?_
          with_reducible refine (r05_Many.calls k2 _ _ x248004_2 45 t248 _ ?side1 ?side2 A14.out).mono ?_
          (case side1=>repeat (first|exact (Kd.R_reads' HO_248004.out).2.2|(with_reducible refine Kd.C_alloc ?_ _)|(with_reducible refine Kd.C_drewN ?_ _)|(with_reducible refine Kd.C_drew ?_)))
          (case side2=>exact (Kd.R_reads' HO_248004.out).2.1)
          rintro e w' ⟨rfl,⟨nd,rfl⟩⟩
          refine ⟨_,rfl,?_⟩
          refine hK.out _ _ ⟨(blk_cell BK247.out 0).trans rfl,(blk_cell BK247.out 1).trans rfl,(blk_cell BK247.out 2).trans rfl,(blk_cell BK247.out 3).trans rfl,(blk_cell BK247.out 4).trans rfl⟩ (fun hHeld=>?_)
          clear hK K
          refine norm_ (a':=?_) ?_ ?_
          rotate_left
          ·show Act.put _ (some 34) _=_
           simp only [Act.put,List.setIfInBounds_toArray,List.set_cons_zero,List.set_cons_succ,i64_w,i32_w]
           rfl
          refine pure_ (i:=5) (N:=some 37) (v:=?_) (a':=?_) #[true,true,true,true,true,true,false,false,false,false,false,false,false,false] rfl rfl (any_of HT_.out (by kernel_rfl)) (fun _ _ _ h=>h) (Or.inl ⟨by rfl,?_⟩) ?_ ?_
          rotate_left
          ·intro w'
           go_simp
           with_reducible rfl
          rotate_left
          ·simp only [Act.put,List.setIfInBounds_toArray,List.set_cons_zero,List.set_cons_succ,i64_w,i32_w]
           rfl
          refine pure_ (i:=6) (N:=some 38) (v:=?_) (a':=?_) #[true,true,true,true,true,true,true,false,false,false,false,false,false,false] rfl rfl (any_of HT_.out (by kernel_rfl)) (fun _ _ _ h=>h) (Or.inl ⟨by rfl,?_⟩) ?_ ?_
          rotate_left
          ·intro w'
           go_simp
           with_reducible rfl
          rotate_left
          ·simp only [Act.put,List.setIfInBounds_toArray,List.set_cons_zero,List.set_cons_succ,i64_w,i32_w]
           rfl
          refine pure_ (i:=7) (N:=some 39) (v:=?_) (a':=?_) #[true,true,true,true,true,true,true,true,false,false,false,false,false,false] rfl rfl (any_of HT_.out (by kernel_rfl)) (fun _ _ _ h=>h) (Or.inl ⟨by rfl,?_⟩) ?_ ?_
          rotate_left
          ·intro w'
           go_simp
           with_reducible rfl
          rotate_left
          ·simp only [Act.put,List.setIfInBounds_toArray,List.set_cons_zero,List.set_cons_succ,i64_w,i32_w]
           rfl
          refine pure_ (i:=10) (N:=some 42) (v:=?_) (a':=?_) #[true,true,true,true,true,true,true,true,false,false,true,false,false,false] rfl rfl (any_of HT_.out (by kernel_rfl)) (fun _ _ _ h=>h) (Or.inl ⟨by rfl,?_⟩) ?_ ?_
          rotate_left
          ·intro w'
           go_simp
           with_reducible rfl
          rotate_left
          ·simp only [Act.put,List.setIfInBounds_toArray,List.set_cons_zero,List.set_cons_succ,i64_w,i32_w]
           rfl
          refine take_ (i:=8) (N:=some 40) (v:=?_) (a':=?_) #[true,true,true,true,true,true,true,true,true,false,true,false,false,false] rfl rfl (take_ofW HT_.out HW_.out (by kernel_rfl)) (fun _ _ _ h=>h) (Or.inl ⟨by rfl,?_⟩) hHeld ?_ ?_
          rotate_left
          ·rintro w' ⟨s0,s1,s2,s3,s4⟩
           go_simp
           with_reducible rfl
          rotate_left
          ·simp only [Act.put,List.setIfInBounds_toArray,List.set_cons_zero,List.set_cons_succ,i64_w,i32_w]
           rfl
          refine take_ (i:=11) (N:=some 43) (v:=?_) (a':=?_) #[true,true,true,true,true,true,true,true,true,false,true,true,false,false] rfl rfl (take_ofW HT_.out HW_.out (by kernel_rfl)) (fun _ _ _ h=>h) (Or.inl ⟨by rfl,?_⟩) hHeld ?_ ?_
          rotate_left
          ·rintro w' ⟨s0,s1,s2,s3,s4⟩
           go_simp
           with_reducible rfl
          rotate_left
          ·simp only [Act.put,List.setIfInBounds_toArray,List.set_cons_zero,List.set_cons_succ,i64_w,i32_w]
           rfl
          refine one_ (i:=9) (N:=some 41) #[true,true,true,true,true,true,true,true,true,true,true,true,false,false] rfl rfl (one_of HT_.out (by kernel_rfl)) (by decide) (fun K hK=>?_)
          refine goes_ Tryd.func36 (by kernel_rfl) rfl #[.slice Ao20 x248004_2.length co20,.int .u8 43] (by rfl) rfl rfl (by (try simp only [List.map_toArray,List.map_cons,List.map_nil]);first|done|rfl|(simp only [List.length_drop,List.length_take];rfl)) ?_
          with_reducible refine (r05_Many.calls k2 _ _ x248004_2 43 t249 _ ?side1 ?side2 A18.out).mono ?_
          (case side1=>repeat (first|exact (Kd.R_reads' HO_248004.out).2.2|(with_reducible refine Kd.C_alloc ?_ _)|(with_reducible refine Kd.C_drewN ?_ _)|(with_reducible refine Kd.C_drew ?_)))
          (case side2=>exact (Kd.R_reads' HO_248004.out).2.1)
          rintro e w' ⟨rfl,⟨nd,rfl⟩⟩
          refine ⟨_,rfl,?_⟩
          refine hK.out _ _ ⟨(blk_cell BK247.out 0).trans rfl,(blk_cell BK247.out 1).trans rfl,(blk_cell BK247.out 2).trans rfl,(blk_cell BK247.out 3).trans rfl,(blk_cell BK247.out 4).trans rfl⟩ (fun hHeld=>?_)
          clear hK K
          refine norm_ (a':=?_) ?_ ?_
          rotate_left
          ·show Act.put _ (some 41) _=_
           simp only [Act.put,List.setIfInBounds_toArray,List.set_cons_zero,List.set_cons_succ,i64_w,i32_w]
           rfl
          refine pure_ (i:=12) (N:=some 44) (v:=?_) (a':=?_) #[true,true,true,true,true,true,true,true,true,true,true,true,true,false] rfl rfl (any_of HT_.out (by kernel_rfl)) (fun _ _ _ h=>h) (Or.inl ⟨by rfl,?_⟩) ?_ ?_
          rotate_left
          ·intro w'
           go_simp
           with_reducible rfl
          rotate_left
          ·simp only [Act.put,List.setIfInBounds_toArray,List.set_cons_zero,List.set_cons_succ,i64_w,i32_w]
           rfl
          refine pure_ (i:=13) (N:=some 45) (v:=?_) (a':=?_) #[true,true,true,true,true,true,true,true,true,true,true,true,true,true] rfl rfl (any_of HT_.out (by kernel_rfl)) (fun _ _ _ h=>h) (Or.inl ⟨by rfl,?_⟩) ?_ ?_
          rotate_left
          ·intro w'
           go_simp
           with_reducible rfl
          rotate_left
          ·simp only [Act.put,List.setIfInBounds_toArray,List.set_cons_zero,List.set_cons_succ,i64_w,i32_w]
           rfl
          refine done_ (done_of HT_.out (by kernel_rfl)) ?_
          try go_wp2
          go_meet
          case rel=>exact ⟨_,(decide (t249<t242)),(by first|rfl|(simp;done)|(simp [*];done)),H',⟨by have:=HK1.out;have:=HK2.out;first|omega|exact Nat.le_refl _⟩,⟨by (try simp only [hl5_2]);(with_reducible repeat (first|apply Kd.R_alloc|apply Kd.R_drewN|apply Kd.R_drew));exact HO_5.out⟩,⟨by (try simp only [hl5_2]);(with_reducible repeat (first|apply Kd.S_alloc|apply Kd.S_drewN|apply Kd.S_drew));exact HO_6.out⟩,⟨by (try simp only [hl5_2]);(with_reducible repeat (first|apply Kd.R_alloc|apply Kd.R_drewN|apply Kd.R_drew));exact HO_248004.out⟩,⟨by (try simp only [hl5_2]);(with_reducible repeat (first|refine blk_drewN ?_ _|refine blk_drew ?_|refine blk_alloc ?_ _));exact BK247.out⟩,⟨by repeat (first|(with_reducible first|exact HB.out|apply below_alloc|apply pw_below_drewN|apply below_drew1|refine below_set ?_ GE247.out)|exact HB.out)⟩⟩
        case rest =>
         clear HC13
         try clear c1
         try clear p2
         try clear q2
         try clear hx2
         try clear c3
         try clear c4
         try clear c4b0
         try clear c5
         try clear c5b0
         try clear p6
         try clear c7
         try clear c13
         try clear c15
         try clear c15b0
         try clear hcz11_0
         try clear hcz11_1
         try clear hcz11_2
         try clear hcz11_3
         try clear hcz11_4
         try clear hfz11_0
         try clear hfz11_1
         try clear hfz11_2
         try clear hfz11_3
         try clear hfz11_4
         try clear hx238_0
         try clear p2
         try clear p238
         try clear p6
         try clear q2
         try clear q238
         obtain ⟨kq,x45_12,rfl,HA,HJ12,HO_5,HO_6,HO_248004,BK247,HB⟩:=hcut
         cases kq with
         | zero=>exact absurd HA.out (by simp [r06_Parse.j2])
         | succ kj12 =>
          have H:=HA.out
          clear HA
          simp only [r06_Parse.j2] at H
          by_cases c21:x45_12=true
          ·subst c21
           have H1:(if x7_2=(x5_2.length:Int) then (some (([]:List (S41)),wrap64 (x7_2+1),2)) else (if 0≤x7_2 then (if x7_2<(x5_2.length:Int) then ((r06_fits.f kj12 t239 t240 t241 t242 x248004_2 (rdOf ByteArray.empty x5_2 x7_2)).bind fun t254=>(if t254=true then (if x248004_2.length<8796093022208 then ((some (x248004_2++[rdOf ByteArray.empty x5_2 x7_2]:List ByteArray)).bind fun y256=>(if (wrap64 (x7_2+1))<(x5_2.length:Int) then (if 0≤(wrap64 (x7_2+1)) then ((r06_mark.f).bind fun t260=>(if (rdOf ByteArray.empty x5_2 (wrap64 (x7_2+1))).toList=t260.toList then (if 0≤(wrap64 ((y256.length:Int) - 1)) then (if (wrap64 ((y256.length:Int) - 1))<(y256.length:Int) then (if 0≤(wrap64 (((rdOf ByteArray.empty y256 (wrap64 ((y256.length:Int) - 1))).size:Int) - 1)) then (if (wrap64 (((rdOf ByteArray.empty y256 (wrap64 ((y256.length:Int) - 1))).size:Int) - 1))≤((rdOf ByteArray.empty y256 (wrap64 ((y256.length:Int) - 1))).size:Int) then (r06_Parse.l1 kj12 x5_2 x6_1 (wrap64 ((wrap64 (x7_2+1))+1)) t239 t240 t241 t242 (y256.set ((wrap64 ((y256.length:Int) - 1)):Int).toNat ((rdOf ByteArray.empty y256 (wrap64 ((y256.length:Int) - 1))).extract 0 ((wrap64 (((rdOf ByteArray.empty y256 (wrap64 ((y256.length:Int) - 1))).size:Int) - 1)):Int).toNat))) else (none)) else (none)) else (none)) else (none)) else (r06_Parse.l1 kj12 x5_2 x6_1 (wrap64 (x7_2+1)) t239 t240 t241 t242 y256))) else (none)) else (r06_Parse.l1 kj12 x5_2 x6_1 (wrap64 (x7_2+1)) t239 t240 t241 t242 y256))) else (none)) else (some (([]:List (S41)),wrap64 (x7_2+1),3)))) else (none)) else (none)))=some (r1,r2,r3):=by rw [if_pos rfl] at H;exact H
           clear H
           have H:=H1
           clear H1
           by_cases c22:x7_2=(x5_2.length:Int)
           ·rw [if_pos c22] at H
            have c22b0:(x7_2 == (x5_2.length:Int))=true:=beq_iff_eq.mpr c22
            have c22b1:(x7_2 != (x5_2.length:Int))=false:=bne_eq_false_iff_eq.mpr c22
            clear c22
            simp only [Option.some.injEq,Prod.mk.injEq] at H
            obtain ⟨rfl,rfl,rfl⟩:=H
            go_wp2
            go_ret3
            exact ⟨_,by first|rfl|(simp [errW_none,errW_some]<;>rfl)|(simp [*,errW_none,errW_some]<;>rfl),by first|exact Kd.S_nil _ _ _ _ _|exact Kd.N_nil _ _ _ _ _|exact Kd.V_nil _ _ _ _ _|exact Kd.Q_nil _ _ _ _ _|exact Kd.R_nil _ _ _ _ _,by repeat (first|(with_reducible first|exact HB.out|apply below_alloc|apply pw_below_drewN|apply below_drew1|refine below_set ?_ GE247.out)|exact HB.out)⟩
           ·rw [if_neg c22] at H
            have c22b0:(x7_2 == (x5_2.length:Int))=false:=beq_eq_false_iff_ne.mpr c22
            have c22b1:(x7_2 != (x5_2.length:Int))=true:=bne_iff_ne.mpr c22
            by_cases c23:0≤x7_2
            ·rw [if_pos c23] at H
             have c23b0:decide (0≤x7_2)=true:=decide_eq_true c23
             clear c23
             by_cases c24:x7_2<(x5_2.length:Int)
             ·rw [if_pos c24] at H
              have c24b0:decide (x7_2<(x5_2.length:Int))=true:=decide_eq_true c24
              clear c24
              replace H:=Option.bind_eq_some_iff.mp H
              obtain ⟨t254,A250,H⟩:=H
              replace H:(if t254=true then (if x248004_2.length<8796093022208 then ((some (x248004_2++[rdOf ByteArray.empty x5_2 x7_2]:List ByteArray)).bind fun y256=>(if (wrap64 (x7_2+1))<(x5_2.length:Int) then (if 0≤(wrap64 (x7_2+1)) then ((r06_mark.f).bind fun t260=>(if (rdOf ByteArray.empty x5_2 (wrap64 (x7_2+1))).toList=t260.toList then (if 0≤(wrap64 ((y256.length:Int) - 1)) then (if (wrap64 ((y256.length:Int) - 1))<(y256.length:Int) then (if 0≤(wrap64 (((rdOf ByteArray.empty y256 (wrap64 ((y256.length:Int) - 1))).size:Int) - 1)) then (if (wrap64 (((rdOf ByteArray.empty y256 (wrap64 ((y256.length:Int) - 1))).size:Int) - 1))≤((rdOf ByteArray.empty y256 (wrap64 ((y256.length:Int) - 1))).size:Int) then (r06_Parse.l1 kj12 x5_2 x6_1 (wrap64 ((wrap64 (x7_2+1))+1)) t239 t240 t241 t242 (y256.set ((wrap64 ((y256.length:Int) - 1)):Int).toNat ((rdOf ByteArray.empty y256 (wrap64 ((y256.length:Int) - 1))).extract 0 ((wrap64 (((rdOf ByteArray.empty y256 (wrap64 ((y256.length:Int) - 1))).size:Int) - 1)):Int).toNat))) else (none)) else (none)) else (none)) else (none)) else (r06_Parse.l1 kj12 x5_2 x6_1 (wrap64 (x7_2+1)) t239 t240 t241 t242 y256))) else (none)) else (r06_Parse.l1 kj12 x5_2 x6_1 (wrap64 (x7_2+1)) t239 t240 t241 t242 y256))) else (none)) else (some (([]:List (S41)),wrap64 (x7_2+1),3)))=some (r1,r2,r3):=H
              have A25:=Aside0.mk A250
              clear A250
              by_cases c26:t254=true
              ·subst c26
               have H1:(if x248004_2.length<8796093022208 then ((some (x248004_2++[rdOf ByteArray.empty x5_2 x7_2]:List ByteArray)).bind fun y256=>(if (wrap64 (x7_2+1))<(x5_2.length:Int) then (if 0≤(wrap64 (x7_2+1)) then ((r06_mark.f).bind fun t260=>(if (rdOf ByteArray.empty x5_2 (wrap64 (x7_2+1))).toList=t260.toList then (if 0≤(wrap64 ((y256.length:Int) - 1)) then (if (wrap64 ((y256.length:Int) - 1))<(y256.length:Int) then (if 0≤(wrap64 (((rdOf ByteArray.empty y256 (wrap64 ((y256.length:Int) - 1))).size:Int) - 1)) then (if (wrap64 (((rdOf ByteArray.empty y256 (wrap64 ((y256.length:Int) - 1))).size:Int) - 1))≤((rdOf ByteArray.empty y256 (wrap64 ((y256.length:Int) - 1))).size:Int) then (r06_Parse.l1 kj12 x5_2 x6_1 (wrap64 ((wrap64 (x7_2+1))+1)) t239 t240 t241 t242 (y256.set ((wrap64 ((y256.length:Int) - 1)):Int).toNat ((rdOf ByteArray.empty y256 (wrap64 ((y256.length:Int) - 1))).extract 0 ((wrap64 (((rdOf ByteArray.empty y256 (wrap64 ((y256.length:Int) - 1))).size:Int) - 1)):Int).toNat))) else (none)) else (none)) else (none)) else (none)) else (r06_Parse.l1 kj12 x5_2 x6_1 (wrap64 (x7_2+1)) t239 t240 t241 t242 y256))) else (none)) else (r06_Parse.l1 kj12 x5_2 x6_1 (wrap64 (x7_2+1)) t239 t240 t241 t242 y256))) else (none))=some (r1,r2,r3):=by rw [if_pos rfl] at H;exact H
               clear H
               have H:=H1
               clear H1
               by_cases c27:x248004_2.length<8796093022208
               ·rw [if_pos c27] at H
                have LMc27:=Aside0.mk c27
                clear c27
                obtain ⟨y256,hy256⟩:∃ y_:List ByteArray,y_=(x248004_2++[rdOf ByteArray.empty x5_2 x7_2]):=⟨_,rfl⟩
                replace H:(if (wrap64 (x7_2+1))<(x5_2.length:Int) then (if 0≤(wrap64 (x7_2+1)) then ((r06_mark.f).bind fun t260=>(if (rdOf ByteArray.empty x5_2 (wrap64 (x7_2+1))).toList=t260.toList then (if 0≤(wrap64 ((y256.length:Int) - 1)) then (if (wrap64 ((y256.length:Int) - 1))<(y256.length:Int) then (if 0≤(wrap64 (((rdOf ByteArray.empty y256 (wrap64 ((y256.length:Int) - 1))).size:Int) - 1)) then (if (wrap64 (((rdOf ByteArray.empty y256 (wrap64 ((y256.length:Int) - 1))).size:Int) - 1))≤((rdOf ByteArray.empty y256 (wrap64 ((y256.length:Int) - 1))).size:Int) then (r06_Parse.l1 kj12 x5_2 x6_1 (wrap64 ((wrap64 (x7_2+1))+1)) t239 t240 t241 t242 (y256.set ((wrap64 ((y256.length:Int) - 1)):Int).toNat ((rdOf ByteArray.empty y256 (wrap64 ((y256.length:Int) - 1))).extract 0 ((wrap64 (((rdOf ByteArray.empty y256 (wrap64 ((y256.length:Int) - 1))).size:Int) - 1)):Int).toNat))) else (none)) else (none)) else (none)) else (none)) else (r06_Parse.l1 kj12 x5_2 x6_1 (wrap64 (x7_2+1)) t239 t240 t241 t242 y256))) else (none)) else (r06_Parse.l1 kj12 x5_2 x6_1 (wrap64 (x7_2+1)) t239 t240 t241 t242 y256))=some (r1,r2,r3):=by first|(rw [hy256];with_reducible exact H)|(have H2_:=(Option.bind_some _ _).symm.trans H;rw [hy256];with_reducible exact H2_)|(have H2_:=(Option.bind_some _ _).symm.trans H;with_reducible exact H2_)|with_reducible exact H|(rw [hy256];exact H)|exact H
                have Ny256:=Aside0.mk hy256
                clear hy256
                by_cases c28:(wrap64 (x7_2+1))<(x5_2.length:Int)
                ·rw [if_pos c28] at H
                 have c28b0:decide ((wrap64 (x7_2+1))<(x5_2.length:Int))=true:=decide_eq_true c28
                 clear c28
                 obtain ⟨ji29,hji29⟩:∃ j_:Int,(wrap64 (x7_2+1))=j_:=⟨_,rfl⟩
                 replace H:(if 0≤(ji29) then ((r06_mark.f).bind fun t260=>(if (rdOf ByteArray.empty x5_2 (ji29)).toList=t260.toList then (if 0≤(wrap64 ((y256.length:Int) - 1)) then (if (wrap64 ((y256.length:Int) - 1))<(y256.length:Int) then (if 0≤(wrap64 (((rdOf ByteArray.empty y256 (wrap64 ((y256.length:Int) - 1))).size:Int) - 1)) then (if (wrap64 (((rdOf ByteArray.empty y256 (wrap64 ((y256.length:Int) - 1))).size:Int) - 1))≤((rdOf ByteArray.empty y256 (wrap64 ((y256.length:Int) - 1))).size:Int) then (r06_Parse.l1 kj12 x5_2 x6_1 (wrap64 ((ji29)+1)) t239 t240 t241 t242 (y256.set ((wrap64 ((y256.length:Int) - 1)):Int).toNat ((rdOf ByteArray.empty y256 (wrap64 ((y256.length:Int) - 1))).extract 0 ((wrap64 (((rdOf ByteArray.empty y256 (wrap64 ((y256.length:Int) - 1))).size:Int) - 1)):Int).toNat))) else (none)) else (none)) else (none)) else (none)) else (r06_Parse.l1 kj12 x5_2 x6_1 ji29 t239 t240 t241 t242 y256))) else (none))=some (r1,r2,r3):=by first|(rw [hji29] at H;exact H)|(simp only [hji29] at H ⊢;exact H)
                 (try rw [hji29] at c28b0)
                 (try rw [hji29] at A25)
                 have hji29w:(IntKind.i64.wrap (x7_2+1))=ji29:=(i64_w _).trans hji29
                 by_cases c30:0≤(ji29)
                 ·rw [if_pos c30] at H
                  have c30b0:decide (0≤(ji29))=true:=decide_eq_true c30
                  clear c30
                  replace H:=Option.bind_eq_some_iff.mp H
                  obtain ⟨t260,A310,H⟩:=H
                  replace H:(if (rdOf ByteArray.empty x5_2 (ji29)).toList=t260.toList then (if 0≤(wrap64 ((y256.length:Int) - 1)) then (if (wrap64 ((y256.length:Int) - 1))<(y256.length:Int) then (if 0≤(wrap64 (((rdOf ByteArray.empty y256 (wrap64 ((y256.length:Int) - 1))).size:Int) - 1)) then (if (wrap64 (((rdOf ByteArray.empty y256 (wrap64 ((y256.length:Int) - 1))).size:Int) - 1))≤((rdOf ByteArray.empty y256 (wrap64 ((y256.length:Int) - 1))).size:Int) then (r06_Parse.l1 kj12 x5_2 x6_1 (wrap64 ((ji29)+1)) t239 t240 t241 t242 (y256.set ((wrap64 ((y256.length:Int) - 1)):Int).toNat ((rdOf ByteArray.empty y256 (wrap64 ((y256.length:Int) - 1))).extract 0 ((wrap64 (((rdOf ByteArray.empty y256 (wrap64 ((y256.length:Int) - 1))).size:Int) - 1)):Int).toNat))) else (none)) else (none)) else (none)) else (none)) else (r06_Parse.l1 kj12 x5_2 x6_1 ji29 t239 t240 t241 t242 y256))=some (r1,r2,r3):=H
                  have A31:=Aside0.mk A310
                  clear A310
                  by_cases c32:(rdOf ByteArray.empty x5_2 (ji29)).toList=t260.toList
                  ·rw [if_pos c32] at H
                   have c32b0:((rdOf ByteArray.empty x5_2 (ji29)).toList == t260.toList)=true:=beq_iff_eq.mpr c32
                   have c32b1:((rdOf ByteArray.empty x5_2 (ji29)).toList != t260.toList)=false:=bne_eq_false_iff_eq.mpr c32
                   clear c32
                   obtain ⟨ji33,hji33⟩:∃ j_:Int,(wrap64 ((y256.length:Int) - 1))=j_:=⟨_,rfl⟩
                   replace H:(if 0≤(ji33) then (if (ji33)<(y256.length:Int) then (if 0≤(wrap64 (((rdOf ByteArray.empty y256 (ji33)).size:Int) - 1)) then (if (wrap64 (((rdOf ByteArray.empty y256 (ji33)).size:Int) - 1))≤((rdOf ByteArray.empty y256 (ji33)).size:Int) then (r06_Parse.l1 kj12 x5_2 x6_1 (wrap64 ((ji29)+1)) t239 t240 t241 t242 (y256.set ((ji33):Int).toNat ((rdOf ByteArray.empty y256 (ji33)).extract 0 ((wrap64 (((rdOf ByteArray.empty y256 (ji33)).size:Int) - 1)):Int).toNat))) else (none)) else (none)) else (none)) else (none))=some (r1,r2,r3):=by first|(rw [hji33] at H;exact H)|(simp only [hji33] at H ⊢;exact H)
                   (try rw [hji33] at A25)
                   (try rw [hji33] at A31)
                   have hji33w:(IntKind.i64.wrap ((y256.length:Int) - 1))=ji33:=(i64_w _).trans hji33
                   by_cases c34:0≤(ji33)
                   ·rw [if_pos c34] at H
                    have c34b0:decide (0≤(ji33))=true:=decide_eq_true c34
                    clear c34
                    by_cases c35:(ji33)<(y256.length:Int)
                    ·rw [if_pos c35] at H
                     have c35b0:decide ((ji33)<(y256.length:Int))=true:=decide_eq_true c35
                     clear c35
                     obtain ⟨ji36,hji36⟩:∃ j_:Int,(wrap64 (((rdOf ByteArray.empty y256 (ji33)).size:Int) - 1))=j_:=⟨_,rfl⟩
                     replace H:(if 0≤(ji36) then (if (ji36)≤((rdOf ByteArray.empty y256 (ji33)).size:Int) then (r06_Parse.l1 kj12 x5_2 x6_1 (wrap64 ((ji29)+1)) t239 t240 t241 t242 (y256.set ((ji33):Int).toNat ((rdOf ByteArray.empty y256 (ji33)).extract 0 ((ji36):Int).toNat))) else (none)) else (none))=some (r1,r2,r3):=by first|(rw [hji36] at H;exact H)|(simp only [hji36] at H ⊢;exact H)
                     (try rw [hji36] at A25)
                     (try rw [hji36] at A31)
                     have hji36w:(IntKind.i64.wrap (((rdOf ByteArray.empty y256 (ji33)).size:Int) - 1))=ji36:=(i64_w _).trans hji36
                     by_cases c37:0≤(ji36)
                     ·rw [if_pos c37] at H
                      have c37b0:=eq_true c37
                      have c37b1:decide (0≤(ji36))=true:=decide_eq_true c37
                      clear c37
                      by_cases c38:(ji36)≤((rdOf ByteArray.empty y256 (ji33)).size:Int)
                      ·rw [if_pos c38] at H
                       have c38b0:=eq_true c38
                       have c38b1:decide ((ji36)≤((rdOf ByteArray.empty y256 (ji33)).size:Int))=true:=decide_eq_true c38
                       clear c38
                       obtain ⟨y263,hy263⟩:∃ y_:List ByteArray,y_=(y256.set ((ji33):Int).toNat ((rdOf ByteArray.empty y256 (ji33)).extract 0 ((ji36):Int).toNat)):=⟨_,rfl⟩
                       replace H:(r06_Parse.l1 kj12 x5_2 x6_1 (wrap64 ((ji29)+1)) t239 t240 t241 t242 y263)=some (r1,r2,r3):=by first|(rw [hy263];with_reducible exact H)|(have H2_:=(Option.bind_some _ _).symm.trans H;rw [hy263];with_reducible exact H2_)|(have H2_:=(Option.bind_some _ _).symm.trans H;with_reducible exact H2_)|with_reducible exact H|(rw [hy263];exact H)|exact H
                       have Ny263:=Aside0.mk hy263
                       clear hy263
                       have H':=Aside0.mk H
                       clear H
                       try go_wp2
                       have n0_:=Aside0.mk (Kd.R_drew HO_5.out)
                       have n1_:=Aside0.mk (Kd.S_drew HO_6.out)
                       have n2_:=Aside0.mk (Kd.R_drew HO_248004.out)
                       have n3_:=Aside0.mk (blk_drew BK247.out)
                       have n4_:=Aside0.mk (below_drew1 HB.out)
                       clear HO_5
                       clear HO_6
                       clear HO_248004
                       clear BK247
                       clear HB
                       have HO_5:=n0_
                       have HO_6:=n1_
                       have HO_248004:=n2_
                       have BK247:=n3_
                       have HB:=n4_
                       clear n0_ n1_ n2_ n3_ n4_
                       have p253:0≤(x7_2:Int):=of_decide_eq_true (by first|(with_reducible assumption)|assumption)
                       have q253:x7_2<(x5_2.length:Int):=of_decide_eq_true (by first|(with_reducible assumption)|assumption)
                       obtain ⟨ad253,e253,hx253_0⟩:=Kd.at_string (Kd.R_reads' HO_5.out).2.2 x7_2 p253 q253
                       obtain rfl:ad238=ad253:=(by injection e253)
                       replace p253:=eq_true p253
                       replace q253:=eq_true q253
                       obtain ⟨Ao41,co41,eo41⟩:=Kd.R_slice HO_248004.out
                       (first|subst eo41|(injection eo41 with f1_ f2_ f3_;have f4_:=f1_.symm;have f5_:=f3_.symm;clear f1_ f2_ f3_;subst f4_;subst f5_))
                       refine start_ (n:=7) (S:=fun w'=>w'.cell? ⟨gb247,0,none⟩=some (.int .i64 t239)∧w'.cell? ⟨gb247,1,none⟩=some (.int .i64 t240)∧w'.cell? ⟨gb247,2,none⟩=some (.int .i64 t241)∧w'.cell? ⟨gb247,3,none⟩=some (.int .i64 t242)∧w'.cell? ⟨gb247,4,none⟩=some (.slice Ao41 x248004_2.length co41)∧w'.cell? (ad238.add (x7_2).toNat)=some (.string (rdOf ByteArray.empty x5_2 x7_2))) (ds:=[]) #[false,false,false,false,false,false,false] (by kernel_rfl) rfl rfl ⟨(blk_cell BK247.out 0).trans rfl,(blk_cell BK247.out 1).trans rfl,(blk_cell BK247.out 2).trans rfl,(blk_cell BK247.out 3).trans rfl,(blk_cell BK247.out 4).trans rfl,hx253_0⟩ (fun hHeld=>?_)
                       generalize wc.drew=w40 at HO_5 HO_6 HO_248004 BK247 HB hx253_0 hHeld ⊢
                       refine pure_ (i:=1) (N:=some 53) (v:=?_) (a':=?_) #[false,true,false,false,false,false,false] rfl rfl (by kernel_rfl) (fun _ _ _ h=>h) (Or.inl ⟨by rfl,?_⟩) ?_ ?_
                       rotate_left
                       ·intro w'
                        go_simp
                        with_reducible rfl
                       rotate_left
                       ·simp only [Act.put,List.setIfInBounds_toArray,List.set_cons_zero,List.set_cons_succ,i64_w,i32_w]
                        rfl
                       refine pure_ (i:=2) (N:=some 54) (v:=?_) (a':=?_) #[false,true,true,false,false,false,false] rfl rfl (by kernel_rfl) (fun _ _ _ h=>h) (Or.inl ⟨by rfl,?_⟩) ?_ ?_
                       rotate_left
                       ·intro w'
                        go_simp
                        with_reducible rfl
                       rotate_left
                       ·simp only [Act.put,List.setIfInBounds_toArray,List.set_cons_zero,List.set_cons_succ,i64_w,i32_w]
                        rfl
                       refine pure_ (i:=3) (N:=some 55) (v:=?_) (a':=?_) #[false,true,true,true,false,false,false] rfl rfl (by kernel_rfl) (fun _ _ _ h=>h) (Or.inl ⟨by rfl,?_⟩) ?_ ?_
                       rotate_left
                       ·intro w'
                        go_simp
                        with_reducible rfl
                       rotate_left
                       ·simp only [Act.put,List.setIfInBounds_toArray,List.set_cons_zero,List.set_cons_succ,i64_w,i32_w]
                        rfl
                       refine take_ (i:=0) (N:=some 52) (v:=?_) (a':=?_) #[true,true,true,true,false,false,false] rfl rfl (by kernel_rfl) (fun _ _ _ h=>h) (Or.inl ⟨by rfl,?_⟩) hHeld ?_ ?_
                       rotate_left
                       ·rintro w' ⟨s0,s1,s2,s3,s4,s5⟩
                        go_simp
                        with_reducible rfl
                       rotate_left
                       ·simp only [Act.put,List.setIfInBounds_toArray,List.set_cons_zero,List.set_cons_succ,i64_w,i32_w]
                        rfl
                       refine take_ (i:=4) (N:=some 56) (v:=?_) (a':=?_) #[true,true,true,true,true,false,false] rfl rfl (by kernel_rfl) (fun _ _ _ h=>h) (Or.inl ⟨by rfl,?_⟩) hHeld ?_ ?_
                       rotate_left
                       ·rintro w' ⟨s0,s1,s2,s3,s4,s5⟩
                        go_simp
                        with_reducible rfl
                       rotate_left
                       ·simp only [Act.put,List.setIfInBounds_toArray,List.set_cons_zero,List.set_cons_succ,i64_w,i32_w]
                        rfl
                       refine one_ (i:=5) (N:=some 57) #[true,true,true,true,true,true,false] rfl rfl (by kernel_rfl) (by decide) (fun K hK=>?_)
                       refine goes_ Tryd.func37 (by kernel_rfl) rfl #[.agg #[.int .i64 t239,.int .i64 t240,.int .i64 t241,.int .i64 t242,.slice Ao41 x248004_2.length co41],.string (rdOf ByteArray.empty x5_2 x7_2)] (by rfl) rfl rfl (by (try simp only [List.map_toArray,List.map_cons,List.map_nil]);first|done|rfl|(simp only [List.length_drop,List.length_take];rfl)) ?_
                       with_reducible refine (r06_fits.calls kj12 t239 t240 t241 t242 _ _ x248004_2 (rdOf ByteArray.empty x5_2 x7_2) true _ ?side1 ?side2 A25.out).mono ?_
                       (case side1=>repeat (first|exact (Kd.R_reads' HO_248004.out).2.2|(with_reducible refine Kd.C_alloc ?_ _)|(with_reducible refine Kd.C_drewN ?_ _)|(with_reducible refine Kd.C_drew ?_)))
                       (case side2=>exact (Kd.R_reads' HO_248004.out).2.1)
                       rintro e w42 ⟨rfl,hb⟩
                       have HS5_:=(hb.cell (World.block_lt_of_cell? _ _ (hHeld.2.2.2.2.2))).trans (hHeld.2.2.2.2.2)
                       refine ⟨_,rfl,?_⟩
                       have n0_:=Aside0.mk (Kd.R_below (by (with_reducible repeat (first|apply Kd.R_alloc|apply Kd.R_drewN|apply Kd.R_drew));exact HO_5.out) hb)
                       have n1_:=Aside0.mk (Kd.S_below (by (with_reducible repeat (first|apply Kd.S_alloc|apply Kd.S_drewN|apply Kd.S_drew));exact HO_6.out) hb)
                       have n2_:=Aside0.mk (Kd.R_below (by (with_reducible repeat (first|apply Kd.R_alloc|apply Kd.R_drewN|apply Kd.R_drew));exact HO_248004.out) hb)
                       have n3_:=Aside0.mk (blk_below (g:=gb247) (o:=.cells #[.int .i64 t239,.int .i64 t240,.int .i64 t241,.int .i64 t242,.slice Ao41 x248004_2.length co41] 41 (0,0)) (by (with_reducible repeat (first|refine blk_drewN ?_ _|refine blk_drew ?_|refine blk_alloc ?_ _));exact BK247.out) hb)
                       have n4_:=Aside0.mk (below_step (by repeat (first|(with_reducible first|exact HB.out|apply below_alloc|apply pw_below_drewN|apply below_drew1|refine below_set ?_ GE247.out)|exact HB.out)) hb)
                       clear HO_5
                       clear HO_6
                       clear HO_248004
                       clear BK247
                       clear HB
                       have HO_5:=n0_
                       have HO_6:=n1_
                       have HO_248004:=n2_
                       have BK247:=n3_
                       have HB:=n4_
                       clear n0_ n1_ n2_ n3_ n4_
                       (try clear hb)
                       (try clear hb2)
                       (try clear hk)
                       (try clear hi)
                       refine hK.out _ _ ⟨(blk_cell BK247.out 0).trans rfl,(blk_cell BK247.out 1).trans rfl,(blk_cell BK247.out 2).trans rfl,(blk_cell BK247.out 3).trans rfl,(blk_cell BK247.out 4).trans rfl,HS5_⟩ (fun hHeld=>?_)
                       clear hK K
                       refine norm_ (a':=?_) ?_ ?_
                       rotate_left
                       ·show Act.put _ (some 57) _=_
                        simp only [Act.put,List.setIfInBounds_toArray,List.set_cons_zero,List.set_cons_succ,i64_w,i32_w]
                        rfl
                       refine pure_ (i:=6) (N:=some 10) (v:=?_) (a':=?_) #[true,true,true,true,true,true,true] rfl rfl (by kernel_rfl) (fun _ _ _ h=>h) (Or.inl ⟨by rfl,?_⟩) ?_ ?_
                       rotate_left
                       ·intro w'
                        go_simp
                        with_reducible rfl
                       rotate_left
                       ·simp only [Act.put,List.setIfInBounds_toArray,List.set_cons_zero,List.set_cons_succ,i64_w,i32_w]
                        rfl
                       refine done_ (by kernel_rfl) ?_
                       try go_wp2
                       have n0_:=Aside0.mk (Kd.R_drew HO_5.out)
                       have n1_:=Aside0.mk (Kd.S_drew HO_6.out)
                       have n2_:=Aside0.mk (Kd.R_drew HO_248004.out)
                       have n3_:=Aside0.mk (blk_drew BK247.out)
                       have n4_:=Aside0.mk (below_drew1 HB.out)
                       clear HO_5
                       clear HO_6
                       clear HO_248004
                       clear BK247
                       clear HB
                       have HO_5:=n0_
                       have HO_6:=n1_
                       have HO_248004:=n2_
                       have BK247:=n3_
                       have HB:=n4_
                       clear n0_ n1_ n2_ n3_ n4_
                       have p255:0≤(x7_2:Int):=of_decide_eq_true (by first|(with_reducible assumption)|assumption)
                       have q255:x7_2<(x5_2.length:Int):=of_decide_eq_true (by first|(with_reducible assumption)|assumption)
                       obtain ⟨ad255,e255,hx255_0⟩:=Kd.at_string (Kd.R_reads' HO_5.out).2.2 x7_2 p255 q255
                       obtain rfl:ad238=ad255:=(by injection e255)
                       replace p255:=eq_true p255
                       replace q255:=eq_true q255
                       refine start_ (n:=10) (S:=fun w'=>w'.cell? ⟨gb247,0,none⟩=some (.int .i64 t239)∧w'.cell? ⟨gb247,1,none⟩=some (.int .i64 t240)∧w'.cell? ⟨gb247,2,none⟩=some (.int .i64 t241)∧w'.cell? ⟨gb247,3,none⟩=some (.int .i64 t242)∧w'.cell? ⟨gb247,4,none⟩=some (.slice Ao41 x248004_2.length co41)∧w'.cell? (ad238.add (x7_2).toNat)=some (.string (rdOf ByteArray.empty x5_2 x7_2))) (ds:=[7,9]) #[false,false,false,false,false,false,false,false,false,false] (by kernel_rfl) rfl rfl ⟨(blk_cell BK247.out 0).trans rfl,(blk_cell BK247.out 1).trans rfl,(blk_cell BK247.out 2).trans rfl,(blk_cell BK247.out 3).trans rfl,(blk_cell BK247.out 4).trans rfl,hx255_0⟩ (fun hHeld=>?_);refine with_tabW r06_Parse.tab15 r06_Parse.bits15 (fun HT_ HW_=>?_)
                       generalize w42.drew=w43 at HO_5 HO_6 HO_248004 BK247 HB hx255_0 hHeld ⊢
                       refine pure_ (i:=0) (N:=some 62) (v:=?_) (a':=?_) #[true,false,false,false,false,false,false,false,false,false] rfl rfl (any_of HT_.out (by kernel_rfl)) (fun _ _ _ h=>h) (Or.inl ⟨by rfl,?_⟩) ?_ ?_
                       rotate_left
                       ·intro w'
                        go_simp
                        with_reducible rfl
                       rotate_left
                       ·simp only [Act.put,List.setIfInBounds_toArray,List.set_cons_zero,List.set_cons_succ,i64_w,i32_w]
                        rfl
                       refine pure_ (i:=2) (N:=some 64) (v:=?_) (a':=?_) #[true,false,true,false,false,false,false,false,false,false] rfl rfl (any_of HT_.out (by kernel_rfl)) (fun _ _ _ h=>h) (Or.inl ⟨by rfl,?_⟩) ?_ ?_
                       rotate_left
                       ·intro w'
                        go_simp
                        with_reducible rfl
                       rotate_left
                       ·simp only [Act.put,List.setIfInBounds_toArray,List.set_cons_zero,List.set_cons_succ,i64_w,i32_w]
                        rfl
                       refine pure_ (i:=3) (N:=some 65) (v:=?_) (a':=?_) #[true,false,true,true,false,false,false,false,false,false] rfl rfl (any_of HT_.out (by kernel_rfl)) (fun _ _ _ h=>h) (Or.inl ⟨by rfl,?_⟩) ?_ ?_
                       rotate_left
                       ·intro w'
                        go_simp
                        with_reducible rfl
                       rotate_left
                       ·simp only [Act.put,List.setIfInBounds_toArray,List.set_cons_zero,List.set_cons_succ,i64_w,i32_w]
                        rfl
                       refine pure_ (i:=4) (N:=some 66) (v:=?_) (a':=?_) #[true,false,true,true,true,false,false,false,false,false] rfl rfl (any_of HT_.out (by kernel_rfl)) (fun _ _ _ h=>h) (Or.inl ⟨by rfl,?_⟩) ?_ ?_
                       rotate_left
                       ·intro w'
                        go_simp
                        with_reducible rfl
                       rotate_left
                       ·simp only [Act.put,List.setIfInBounds_toArray,List.set_cons_zero,List.set_cons_succ,i64_w,i32_w]
                        rfl
                       refine take_ (i:=1) (N:=some 63) (v:=?_) (a':=?_) #[true,true,true,true,true,false,false,false,false,false] rfl rfl (take_ofW HT_.out HW_.out (by kernel_rfl)) (fun _ _ _ h=>h) (Or.inl ⟨by rfl,?_⟩) hHeld ?_ ?_
                       rotate_left
                       ·rintro w' ⟨s0,s1,s2,s3,s4,s5⟩
                        go_simp
                        with_reducible rfl
                       rotate_left
                       ·simp only [Act.put,List.setIfInBounds_toArray,List.set_cons_zero,List.set_cons_succ,i64_w,i32_w]
                        rfl
                       refine take_ (i:=5) (N:=some 67) (v:=?_) (a':=?_) #[true,true,true,true,true,true,false,false,false,false] rfl rfl (take_ofW HT_.out HW_.out (by kernel_rfl)) (fun _ _ _ h=>h) (Or.inl ⟨by rfl,?_⟩) hHeld ?_ ?_
                       rotate_left
                       ·rintro w' ⟨s0,s1,s2,s3,s4,s5⟩
                        go_simp
                        with_reducible rfl
                       rotate_left
                       ·simp only [Act.put,List.setIfInBounds_toArray,List.set_cons_zero,List.set_cons_succ,i64_w,i32_w]
                        rfl
                       refine one_ (i:=6) (N:=some 68) #[true,true,true,true,true,true,true,false,false,false] rfl rfl (one_of HT_.out (by kernel_rfl)) (by decide) (fun K hK=>?_)
                       refine value_ (w1:=?_) (v:=?_) (by rfl) rfl ?_ ?_
                       rotate_left 2
                       ·go_simp
                        constructor
                        ·rfl
                        ·rfl
                       refine hK.out _ _ ⟨(blk_cell (blk_alloc BK247.out _) 0).trans rfl,(blk_cell (blk_alloc BK247.out _) 1).trans rfl,(blk_cell (blk_alloc BK247.out _) 2).trans rfl,(blk_cell (blk_alloc BK247.out _) 3).trans rfl,(blk_cell (blk_alloc BK247.out _) 4).trans rfl,(World.cell?_alloc_lt _ _ _ (World.block_lt_of_cell? _ _ (hHeld.2.2.2.2.2))).trans (hHeld.2.2.2.2.2)⟩ (fun hHeld=>?_)
                       clear hK K
                       refine norm_ (a':=?_) ?_ ?_
                       rotate_left
                       ·show Act.put _ (some 68) _=_
                        simp only [Act.put,List.setIfInBounds_toArray,List.set_cons_zero,List.set_cons_succ,i64_w,i32_w]
                        rfl
                       refine last_ (i:=7) (N:=some 69) #[true,true,true,true,true,true,true,true,false,false] rfl rfl (one_of HT_.out (by kernel_rfl)) (by decide) (fun K hK=>?_)
                       refine Kd.R_append_step Kd.string (w0:=w) w.heap.size (by rfl) (.tmp 63) (.tmp 68) 33 9 (.string ⟨#[]⟩) 16 rfl Tryd.underlying33 info9 rfl (by decide) (by omega) (.slice Ao41 x248004_2.length co41) x248004_2 (rdOf ByteArray.empty x5_2 x7_2) [.string (rdOf ByteArray.empty x5_2 x7_2)] (fun k_=>some k_≠(.slice (some ad238) x5_2.length co8:Value).ownBlock) (fun _=>False) rfl rfl ?aP (fun _ hk=>hk.elim) ?aF ?aO ?aB ?aS ?aL ?_
                       (case aP=>exact rfl)
                       (case aB=>exact (by repeat (first|(with_reducible first|exact HB.out|apply below_alloc|apply pw_below_drewN|apply below_drew1|refine below_set ?_ GE247.out)|exact HB.out)))
                       (case aF=>exact (fun k_ hk=>Kd.fresh' (Kd.R_lt (by (with_reducible repeat (first|apply Kd.R_alloc|apply Kd.R_drewN|apply Kd.R_drew));exact HO_5.out)) k_ hk))
                       (case aO=>exact (by (with_reducible repeat (first|apply Kd.R_alloc|apply Kd.R_drewN|apply Kd.R_drew));exact HO_248004.out))
                       (case aS=>exact (below_size (by repeat (first|(with_reducible first|exact HB.out|apply below_alloc|apply pw_below_drewN|apply below_drew1|refine below_set ?_ GE247.out)|exact HB.out))))
                       (case aL=>have:=LMc27.out;omega)
                       intro v257 w44 ho hb hg hat
                       rw [← Ny256.out] at ho
                       have n0_:=Aside0.mk (Kd.R_after (ok:=(fun _=>True)) (by (with_reducible repeat (first|apply Kd.R_alloc|apply Kd.R_drewN|apply Kd.R_drew));exact Kd.R_mono HO_5.out (fun _ hk=>⟨trivial,hk⟩)) hg hat)
                       have n1_:=Aside0.mk (Kd.S_after (ok:=(fun k_=>some k_≠(.slice (some ad238) x5_2.length co8:Value).ownBlock∧k_≠gb247)) (by (with_reducible repeat (first|apply Kd.S_alloc|apply Kd.S_drewN|apply Kd.S_drew));exact Kd.S_mono HO_6.out (fun _ hk=>⟨⟨hk.1,hk.2.2⟩,hk.2.1⟩)) hg hat)
                       have n2_:=Aside0.mk (blk_grown (g:=gb247) (o:=.cells #[.int .i64 t239,.int .i64 t240,.int .i64 t241,.int .i64 t242,.slice Ao41 x248004_2.length co41] 41 (0,0)) (by (with_reducible repeat (first|refine blk_drewN ?_ _|refine blk_drew ?_|refine blk_alloc ?_ _));exact BK247.out) hg (Kd.R_ne HO_248004.out BK247.out (by decide)))
                       have n3_:=Aside0.mk (hb)
                       have n4_:=Aside0.mk (ho)
                       clear HO_5
                       clear HO_6
                       clear BK247
                       clear HB
                       clear HO_248004
                       have HO_5:=n0_
                       have HO_6:=n1_
                       have BK247:=n2_
                       have HB:=n3_
                       have HO258:=n4_
                       clear n0_ n1_ n2_ n3_ n4_
                       clear ho hb hg hat
                       obtain ⟨Ao45,co45,eo45⟩:=Kd.R_slice HO258.out
                       (first|subst eo45|(injection eo45 with f1_ f2_ f3_;have f4_:=f1_.symm;have f5_:=f3_.symm;clear f1_ f2_ f3_;subst f4_;subst f5_))
                       refine hK.out _ _ ?_
                       clear hK K
                       refine norm_ (a':=?_) ?_ ?_
                       rotate_left
                       ·show Act.put _ (some 69) _=_
                        simp only [Act.put,List.setIfInBounds_toArray,List.set_cons_zero,List.set_cons_succ,i64_w,i32_w]
                        rfl
                       refine pure_ (i:=8) (N:=some 70) (v:=?_) (a':=?_) #[true,true,true,true,true,true,true,true,true,false] rfl rfl (any_of HT_.out (by kernel_rfl)) (fun _ _ _ h=>h) (Or.inl ⟨by rfl,?_⟩) ?_ ?_
                       rotate_left
                       ·intro w'
                        go_simp
                        with_reducible rfl
                       rotate_left
                       ·simp only [Act.put,List.setIfInBounds_toArray,List.set_cons_zero,List.set_cons_succ,i64_w,i32_w]
                        rfl
                       refine last_ (i:=9) (N:=none) #[true,true,true,true,true,true,true,true,true,true] rfl rfl (one_of HT_.out (by kernel_rfl)) (by decide) (fun K hK=>?_)
                       have hs46:w44.cell? ⟨gb247,4,none⟩=some (.slice Ao41 x248004_2.length co41):=(blk_cell BK247.out 4).trans rfl
                       have hfs46:=blk_frozen BK247.out 4
                       refine skip_ (w1:=?_) (by rfl) rfl ?_ ?_
                       rotate_left
                       ·go_simp
                        rfl
                       refine hK.out _ _ ?_
                       clear hK K
                       refine done_ (done_of HT_.out (by kernel_rfl)) ?_
                       try go_wp2
                       have n0_:Aside0 (Kd.R Kd.string 9 (w44.setCell ⟨gb247,4,none⟩ (.slice Ao45 y256.length co45)) w.heap.size (fun k_=>some k_≠(.slice Ao45 y256.length co45:Value).ownBlock) (.slice (some ad238) x5_2.length co8) x5_2):=⟨by (with_reducible repeat (first|apply Kd.R_alloc|apply Kd.R_drewN|apply Kd.R_drew));exact Kd.R_mono (Kd.R_far (p:=⟨gb247,4,none⟩) (Kd.R_types HO_5.out BK247.out (by decide)) (fun _ hk=>hk.2) (.slice Ao45 y256.length co45)) (fun _ hk=>hk.1.2)⟩
                       have n1_:Aside0 (Kd.S k41 41 (w44.setCell ⟨gb247,4,none⟩ (.slice Ao45 y256.length co45)) w.heap.size (fun k_=>some k_≠(.slice (some ad238) x5_2.length co8:Value).ownBlock∧some k_≠(.slice Ao45 y256.length co45:Value).ownBlock∧k_≠gb247) u6 x6_1):=⟨by (with_reducible repeat (first|apply Kd.S_alloc|apply Kd.S_drewN|apply Kd.S_drew));exact Kd.S_mono (Kd.S_far (p:=⟨gb247,4,none⟩) (Kd.S_mono HO_6.out (fun k_ hk=>(⟨hk,hk.1.2⟩:_∧k_≠gb247))) (fun _ hk=>hk.2) (.slice Ao45 y256.length co45)) (fun _ hk=>⟨hk.1.1.1,⟨hk.1.2,hk.1.1.2⟩⟩)⟩
                       have n2_:Aside0 (Kd.R Kd.string 9 (w44.setCell ⟨gb247,4,none⟩ (.slice Ao45 y256.length co45)) w.heap.size (fun k_=>some k_≠(.slice (some ad238) x5_2.length co8:Value).ownBlock) (.slice Ao45 y256.length co45) y256):=⟨by (with_reducible repeat (first|apply Kd.R_alloc|apply Kd.R_drewN|apply Kd.R_drew));exact Kd.R_mono (Kd.R_far (p:=⟨gb247,4,none⟩) (Kd.R_types HO258.out BK247.out (by decide)) (fun _ hk=>hk.2) (.slice Ao45 y256.length co45)) (fun _ hk=>hk.1)⟩
                       have n3_:Aside0 ((w44.setCell ⟨gb247,4,none⟩ (.slice Ao45 y256.length co45)).heap[gb247]?=some (.cells #[.int .i64 t239,.int .i64 t240,.int .i64 t241,.int .i64 t242,.slice Ao45 y256.length co45] 41 (0,0))):=⟨by (with_reducible repeat (first|refine blk_drewN ?_ _|refine blk_drew ?_|refine blk_alloc ?_ _));refine blk_put (cs:=#[.int .i64 t239,.int .i64 t240,.int .i64 t241,.int .i64 t242,.slice Ao41 x248004_2.length co41]) ?_ 4 _ rfl;(with_reducible repeat (first|refine blk_drewN ?_ _|refine blk_drew ?_|refine blk_alloc ?_ _));exact BK247.out⟩
                       have n4_:Aside0 (Below w.heap.size w (w44.setCell ⟨gb247,4,none⟩ (.slice Ao45 y256.length co45))):=⟨by repeat (first|(with_reducible first|exact HB.out|apply below_alloc|apply pw_below_drewN|apply below_drew1|refine below_set ?_ GE247.out)|exact HB.out)⟩
                       (try clear HO_5)
                       (try clear HO_6)
                       (try clear HO258)
                       (try clear BK247)
                       (try clear HB)
                       generalize (w44.setCell ⟨gb247,4,none⟩ (.slice Ao45 y256.length co45))=w47 at n0_ n1_ n2_ n3_ n4_ ⊢
                       have HO_5:=n0_
                       have HO_6:=n1_
                       have HO258:=n2_
                       have BK247:=n3_
                       have HB:=n4_
                       clear n0_ n1_ n2_ n3_ n4_
                       have n0_:=Aside0.mk (Kd.R_drew HO_5.out)
                       have n1_:=Aside0.mk (Kd.S_drew HO_6.out)
                       have n2_:=Aside0.mk (Kd.R_drew HO258.out)
                       have n3_:=Aside0.mk (blk_drew BK247.out)
                       have n4_:=Aside0.mk (below_drew1 HB.out)
                       clear HO_5
                       clear HO_6
                       clear HO258
                       clear BK247
                       clear HB
                       have HO_5:=n0_
                       have HO_6:=n1_
                       have HO258:=n2_
                       have BK247:=n3_
                       have HB:=n4_
                       clear n0_ n1_ n2_ n3_ n4_
                       have p259:0≤((ji29):Int):=of_decide_eq_true (by first|(with_reducible assumption)|assumption)
                       have q259:(ji29)<(x5_2.length:Int):=of_decide_eq_true (by first|(with_reducible assumption)|assumption)
                       obtain ⟨ad259,e259,hx259_0⟩:=Kd.at_string (Kd.R_reads' HO_5.out).2.2 (ji29) p259 q259
                       obtain rfl:ad238=ad259:=(by injection e259)
                       replace p259:=eq_true p259
                       replace q259:=eq_true q259
                       refine start_ (n:=12) (S:=fun w'=>w'.cell? (ad238.add ((ji29)).toNat)=some (.string (rdOf ByteArray.empty x5_2 (ji29)))) (ds:=[]) #[false,false,false,false,false,false,false,false,false,false,false,false] (by kernel_rfl) rfl rfl (hx259_0) (fun hHeld=>?_);refine with_tabW r06_Parse.tab17 r06_Parse.bits17 (fun HT_ HW_=>?_)
                       generalize w47.drew=w48 at HO_5 HO_6 HO258 BK247 HB hx259_0 hHeld ⊢
                       refine pure_ (i:=0) (N:=some 73) (v:=?_) (a':=?_) #[true,false,false,false,false,false,false,false,false,false,false,false] rfl rfl (any_of HT_.out (by kernel_rfl)) (fun _ _ _ h=>h) (Or.inl ⟨by rfl,?_⟩) ?_ ?_
                       rotate_left
                       ·intro w'
                        go_simp
                        with_reducible rfl
                       rotate_left
                       ·simp only [Act.put,List.setIfInBounds_toArray,List.set_cons_zero,List.set_cons_succ,i64_w,i32_w]
                        rfl
                       refine pure_ (i:=1) (N:=some 74) (v:=?_) (a':=?_) #[true,true,false,false,false,false,false,false,false,false,false,false] rfl rfl (any_of HT_.out (by kernel_rfl)) (fun _ _ _ h=>h) (Or.inl ⟨by rfl,?_⟩) ?_ ?_
                       rotate_left
                       ·intro w'
                        go_simp
                        with_reducible rfl
                       rotate_left
                       ·simp only [Act.put,List.setIfInBounds_toArray,List.set_cons_zero,List.set_cons_succ,i64_w,i32_w]
                        rfl
                       refine pure_ (i:=2) (N:=some 75) (v:=?_) (a':=?_) #[true,true,true,false,false,false,false,false,false,false,false,false] rfl rfl (any_of HT_.out (by kernel_rfl)) (fun _ _ _ h=>h) (Or.inl ⟨by rfl,?_⟩) ?_ ?_
                       rotate_left
                       ·intro w'
                        go_simp
                        with_reducible rfl
                       rotate_left
                       ·simp only [Act.put,List.setIfInBounds_toArray,List.set_cons_zero,List.set_cons_succ,i64_w,i32_w]
                        rfl
                       refine pure_ (i:=3) (N:=some 76) (v:=?_) (a':=?_) #[true,true,true,true,false,false,false,false,false,false,false,false] rfl rfl (any_of HT_.out (by kernel_rfl)) (fun _ _ _ h=>h) (Or.inl ⟨by rfl,?_⟩) ?_ ?_
                       rotate_left
                       ·intro w'
                        go_simp
                        with_reducible rfl
                       rotate_left
                       ·simp only [Act.put,List.setIfInBounds_toArray,List.set_cons_zero,List.set_cons_succ,i64_w,i32_w]
                        rfl
                       refine pure_ (i:=4) (N:=some 77) (v:=?_) (a':=?_) #[true,true,true,true,true,false,false,false,false,false,false,false] rfl rfl (any_of HT_.out (by kernel_rfl)) (fun _ _ _ h=>h) (Or.inl ⟨by rfl,?_⟩) ?_ ?_
                       rotate_left
                       ·intro w'
                        go_simp
                        with_reducible rfl
                       rotate_left
                       ·simp only [Act.put,List.setIfInBounds_toArray,List.set_cons_zero,List.set_cons_succ,i64_w,i32_w]
                        rfl
                       refine pure_ (i:=5) (N:=some 78) (v:=?_) (a':=?_) #[true,true,true,true,true,true,false,false,false,false,false,false] rfl rfl (any_of HT_.out (by kernel_rfl)) (fun _ _ _ h=>h) (Or.inl ⟨by rfl,?_⟩) ?_ ?_
                       rotate_left
                       ·intro w'
                        go_simp
                        with_reducible rfl
                       rotate_left
                       ·simp only [Act.put,List.setIfInBounds_toArray,List.set_cons_zero,List.set_cons_succ,i64_w,i32_w]
                        rfl
                       refine pure_ (i:=6) (N:=some 79) (v:=?_) (a':=?_) #[true,true,true,true,true,true,true,false,false,false,false,false] rfl rfl (any_of HT_.out (by kernel_rfl)) (fun _ _ _ h=>h) (Or.inl ⟨by rfl,?_⟩) ?_ ?_
                       rotate_left
                       ·intro w'
                        go_simp
                        with_reducible rfl
                       rotate_left
                       ·simp only [Act.put,List.setIfInBounds_toArray,List.set_cons_zero,List.set_cons_succ,i64_w,i32_w]
                        rfl
                       refine pure_ (i:=7) (N:=some 80) (v:=?_) (a':=?_) #[true,true,true,true,true,true,true,true,false,false,false,false] rfl rfl (any_of HT_.out (by kernel_rfl)) (fun _ _ _ h=>h) (Or.inl ⟨by rfl,?_⟩) ?_ ?_
                       rotate_left
                       ·intro w'
                        go_simp
                        with_reducible rfl
                       rotate_left
                       ·simp only [Act.put,List.setIfInBounds_toArray,List.set_cons_zero,List.set_cons_succ,i64_w,i32_w]
                        rfl
                       refine take_ (i:=8) (N:=some 81) (v:=?_) (a':=?_) #[true,true,true,true,true,true,true,true,true,false,false,false] rfl rfl (take_ofW HT_.out HW_.out (by kernel_rfl)) (fun _ _ _ h=>h) (Or.inl ⟨by rfl,?_⟩) hHeld ?_ ?_
                       rotate_left
                       ·intro w' s0
                        go_simp
                        with_reducible rfl
                       rotate_left
                       ·simp only [Act.put,List.setIfInBounds_toArray,List.set_cons_zero,List.set_cons_succ,i64_w,i32_w]
                        rfl
                       refine one_ (i:=9) (N:=some 82) #[true,true,true,true,true,true,true,true,true,true,false,false] rfl rfl (one_of HT_.out (by kernel_rfl)) (by decide) (fun K hK=>?_)
                       refine goes_ Tryd.func30 (by kernel_rfl) rfl #[] (by rfl) rfl rfl (by (try simp only [List.map_toArray,List.map_cons,List.map_nil]);first|done|rfl|(simp only [List.length_drop,List.length_take];rfl)) ?_
                       with_reducible refine (r06_mark.calls  t260 _ A31.out).mono ?_
                       rintro e w' ⟨rfl,⟨nd,rfl⟩⟩
                       refine ⟨_,rfl,?_⟩
                       refine hK.out _ _ (hHeld) (fun hHeld=>?_)
                       clear hK K
                       refine norm_ (a':=?_) ?_ ?_
                       rotate_left
                       ·show Act.put _ (some 82) _=_
                        simp only [Act.put,List.setIfInBounds_toArray,List.set_cons_zero,List.set_cons_succ,i64_w,i32_w]
                        rfl
                       refine pure_ (i:=10) (N:=some 83) (v:=?_) (a':=?_) #[true,true,true,true,true,true,true,true,true,true,true,false] rfl rfl (any_of HT_.out (by kernel_rfl)) (fun _ _ _ h=>h) (Or.inl ⟨by rfl,?_⟩) ?_ ?_
                       rotate_left
                       ·intro w'
                        go_simp
                        with_reducible rfl
                       rotate_left
                       ·simp only [Act.put,List.setIfInBounds_toArray,List.set_cons_zero,List.set_cons_succ,i64_w,i32_w]
                        rfl
                       refine pure_ (i:=11) (N:=some 84) (v:=?_) (a':=?_) #[true,true,true,true,true,true,true,true,true,true,true,true] rfl rfl (any_of HT_.out (by kernel_rfl)) (fun _ _ _ h=>h) (Or.inl ⟨by rfl,?_⟩) ?_ ?_
                       rotate_left
                       ·intro w'
                        go_simp
                        with_reducible rfl
                       rotate_left
                       ·simp only [Act.put,List.setIfInBounds_toArray,List.set_cons_zero,List.set_cons_succ,i64_w,i32_w]
                        rfl
                       refine done_ (done_of HT_.out (by kernel_rfl)) ?_
                       have hcz49_0:w48.cell? ⟨gb247,0,none⟩=some (.int .i64 t239):=(blk_cell BK247.out 0).trans rfl
                       have hcz49_1:w48.cell? ⟨gb247,1,none⟩=some (.int .i64 t240):=(blk_cell BK247.out 1).trans rfl
                       have hcz49_2:w48.cell? ⟨gb247,2,none⟩=some (.int .i64 t241):=(blk_cell BK247.out 2).trans rfl
                       have hcz49_3:w48.cell? ⟨gb247,3,none⟩=some (.int .i64 t242):=(blk_cell BK247.out 3).trans rfl
                       have hcz49_4:w48.cell? ⟨gb247,4,none⟩=some (.slice Ao45 y256.length co45):=(blk_cell BK247.out 4).trans rfl
                       have hfz49_0:=blk_frozen BK247.out 0
                       have hfz49_1:=blk_frozen BK247.out 1
                       have hfz49_2:=blk_frozen BK247.out 2
                       have hfz49_3:=blk_frozen BK247.out 3
                       have hfz49_4:=blk_frozen BK247.out 4
                       try go_wp2
                       (try (rw [drewN_self w48];generalize hq_:World.drewN w48 _=w48;have n0_:Aside0 (Kd.R Kd.string 9 w48 w.heap.size (fun k_=>some k_≠(.slice (some ad238) x5_2.length co8:Value).ownBlock) (.slice Ao45 y256.length co45) y256):=⟨by rw [← hq_];exact (by (with_reducible repeat (first|apply Kd.R_alloc|apply Kd.R_drewN|apply Kd.R_drew));exact HO258.out)⟩;have n1_:Aside0 (Kd.R Kd.string 9 w48 w.heap.size (fun k_=>some k_≠(.slice Ao45 y256.length co45:Value).ownBlock) (.slice (some ad238) x5_2.length co8) x5_2):=⟨by rw [← hq_];exact (by (with_reducible repeat (first|apply Kd.R_alloc|apply Kd.R_drewN|apply Kd.R_drew));exact HO_5.out)⟩;have n2_:Aside0 (Kd.S k41 41 w48 w.heap.size (fun k_=>some k_≠(.slice Ao45 y256.length co45:Value).ownBlock∧some k_≠(.slice (some ad238) x5_2.length co8:Value).ownBlock∧k_≠gb247) u6 x6_1):=⟨by rw [← hq_];exact (by (with_reducible repeat (first|apply Kd.S_alloc|apply Kd.S_drewN|apply Kd.S_drew));exact Kd.S_mono HO_6.out (fun _ hk=>⟨hk.2.1,⟨hk.1,hk.2.2⟩⟩))⟩;have n3_:Aside0 (w48.heap[gb247]?=some (.cells #[.int .i64 t239,.int .i64 t240,.int .i64 t241,.int .i64 t242,.slice Ao45 y256.length co45] 41 (0,0))):=⟨by rw [← hq_];exact (by (with_reducible repeat (first|refine blk_drewN ?_ _|refine blk_drew ?_|refine blk_alloc ?_ _));exact BK247.out)⟩;have n4_:Aside0 (Below w.heap.size w w48):=⟨by rw [← hq_];exact (by repeat (first|(with_reducible first|exact HB.out|apply below_alloc|apply pw_below_drewN|apply below_drew1|refine below_set ?_ GE247.out)|exact HB.out))⟩;clear HO258 HO_5 HO_6 BK247 HB hq_;have HO258:=n0_;have HO_5:=n1_;have HO_6:=n2_;have BK247:=n3_;have HB:=n4_;clear n0_ n1_ n2_ n3_ n4_))
                       have n0_:=Aside0.mk (Kd.R_drew HO_5.out)
                       have n1_:=Aside0.mk (Kd.S_drew HO_6.out)
                       have n2_:=Aside0.mk (Kd.R_drew HO258.out)
                       have n3_:=Aside0.mk (blk_drew BK247.out)
                       have n4_:=Aside0.mk (below_drew1 HB.out)
                       clear HO_5
                       clear HO_6
                       clear HO258
                       clear BK247
                       clear HB
                       have HO_5:=n0_
                       have HO_6:=n1_
                       have HO258:=n2_
                       have BK247:=n3_
                       have HB:=n4_
                       clear n0_ n1_ n2_ n3_ n4_
                       have p261:0≤((ji33):Int):=of_decide_eq_true (by first|(with_reducible assumption)|assumption)
                       have q261:(ji33)<(y256.length:Int):=of_decide_eq_true (by first|(with_reducible assumption)|assumption)
                       obtain ⟨ad261,e261,hx261_0⟩:=Kd.at_string (Kd.R_reads' HO258.out).2.2 (ji33) p261 q261
                       cases e261
                       replace p261:=eq_true p261
                       replace q261:=eq_true q261
                       have p262:0≤((ji33):Int):=of_decide_eq_true (by first|(with_reducible assumption)|assumption)
                       have q262:(ji33)<(y256.length:Int):=of_decide_eq_true (by first|(with_reducible assumption)|assumption)
                       obtain ⟨ad262,e262,hx262_0⟩:=Kd.at_string (Kd.R_reads' HO258.out).2.2 (ji33) p262 q262
                       obtain rfl:ad261=ad262:=(by injection e262)
                       replace p262:=eq_true p262
                       replace q262:=eq_true q262
                       have p39:0≤((ji33):Int):=of_decide_eq_true (by first|(with_reducible assumption)|assumption)
                       have q39:((ji33):Int)<((y256.length:Int):Int):=of_decide_eq_true (by first|(with_reducible assumption)|assumption)
                       obtain ⟨go39,co39,eo39,gb39,gl39,cl39,HG39⟩:=Kd.R_form HO258.out (by omega)
                       (first|cases eo39|(injection eo39 with ea_ en_ ec_;(first|subst ea_|(injection ea_ with ea_;subst ea_));subst ec_;clear en_))
                       have GB39:=Aside0.mk gb39
                       have GG39:=Aside0.mk HG39
                       clear gb39 gl39 HG39
                       (first|simp only [add_plain] at hx261_0|skip)
                       (first|simp only [add_plain] at hx262_0|skip)
                       obtain ⟨hx39_0,hf39_0⟩:=Kd.R_celln (⟨#[]⟩:ByteArray) HO258.out ((ji33):Int) p39 q39
                       replace p39:=eq_true p39
                       replace q39:=eq_true q39
                       have HP51:=Kd.R_putn HO258.out ((ji33):Int) ((rdOf ByteArray.empty y256 (ji33)).extract 0 ((ji36):Int).toNat)
                       rw [← Ny263.out] at HP51
                       have HQ51:=Aside0.mk HP51
                       clear HP51
                       refine start_ (n:=18) (S:=fun w'=>w'.cell? ⟨gb247,0,none⟩=some (.int .i64 t239)∧w'.cell? ⟨gb247,1,none⟩=some (.int .i64 t240)∧w'.cell? ⟨gb247,2,none⟩=some (.int .i64 t241)∧w'.cell? ⟨gb247,3,none⟩=some (.int .i64 t242)∧w'.cell? ⟨gb247,4,none⟩=some (.slice (some ⟨go39,0,none⟩) y256.length co45)∧w'.cell? ⟨go39,((ji33)).toNat,none⟩=some (.string (rdOf ByteArray.empty y256 (ji33)))∧w'.cell? ⟨go39,((ji33)).toNat,none⟩=some (.string (rdOf ByteArray.empty y256 (ji33)))) (ds:=[17]) #[false,false,false,false,false,false,false,false,false,false,false,false,false,false,false,false,false,false] (by kernel_rfl) rfl rfl ⟨(blk_cell BK247.out 0).trans rfl,(blk_cell BK247.out 1).trans rfl,(blk_cell BK247.out 2).trans rfl,(blk_cell BK247.out 3).trans rfl,(blk_cell BK247.out 4).trans rfl,hx261_0,hx262_0⟩ (fun hHeld=>?_);refine with_tabW r06_Parse.tab19 r06_Parse.bits19 (fun HT_ HW_=>?_)
                       generalize w48.drew=w50 at HO_5 HO_6 HO258 BK247 HB GG39 HQ51 hf39_0 hx261_0 hx262_0 hx39_0 hHeld ⊢
                       refine pure_ (i:=0) (N:=some 89) (v:=?_) (a':=?_) #[true,false,false,false,false,false,false,false,false,false,false,false,false,false,false,false,false,false] rfl rfl (any_of HT_.out (by kernel_rfl)) (fun _ _ _ h=>h) (Or.inl ⟨by rfl,?_⟩) ?_ ?_
                       rotate_left
                       ·intro w'
                        go_simp
                        with_reducible rfl
                       rotate_left
                       ·simp only [Act.put,List.setIfInBounds_toArray,List.set_cons_zero,List.set_cons_succ,i64_w,i32_w]
                        rfl
                       refine pure_ (i:=2) (N:=some 91) (v:=?_) (a':=?_) #[true,false,true,false,false,false,false,false,false,false,false,false,false,false,false,false,false,false] rfl rfl (any_of HT_.out (by kernel_rfl)) (fun _ _ _ h=>h) (Or.inl ⟨by rfl,?_⟩) ?_ ?_
                       rotate_left
                       ·intro w'
                        go_simp
                        with_reducible rfl
                       rotate_left
                       ·simp only [Act.put,List.setIfInBounds_toArray,List.set_cons_zero,List.set_cons_succ,i64_w,i32_w]
                        rfl
                       refine pure_ (i:=3) (N:=some 92) (v:=?_) (a':=?_) #[true,false,true,true,false,false,false,false,false,false,false,false,false,false,false,false,false,false] rfl rfl (any_of HT_.out (by kernel_rfl)) (fun _ _ _ h=>h) (Or.inl ⟨by rfl,?_⟩) ?_ ?_
                       rotate_left
                       ·intro w'
                        go_simp
                        with_reducible rfl
                       rotate_left
                       ·simp only [Act.put,List.setIfInBounds_toArray,List.set_cons_zero,List.set_cons_succ,i64_w,i32_w]
                        rfl
                       refine pure_ (i:=5) (N:=some 94) (v:=?_) (a':=?_) #[true,false,true,true,false,true,false,false,false,false,false,false,false,false,false,false,false,false] rfl rfl (any_of HT_.out (by kernel_rfl)) (fun _ _ _ h=>h) (Or.inl ⟨by rfl,?_⟩) ?_ ?_
                       rotate_left
                       ·intro w'
                        go_simp
                        with_reducible rfl
                       rotate_left
                       ·simp only [Act.put,List.setIfInBounds_toArray,List.set_cons_zero,List.set_cons_succ,i64_w,i32_w]
                        rfl
                       refine pure_ (i:=8) (N:=some 97) (v:=?_) (a':=?_) #[true,false,true,true,false,true,false,false,true,false,false,false,false,false,false,false,false,false] rfl rfl (any_of HT_.out (by kernel_rfl)) (fun _ _ _ h=>h) (Or.inl ⟨by rfl,?_⟩) ?_ ?_
                       rotate_left
                       ·intro w'
                        go_simp
                        with_reducible rfl
                       rotate_left
                       ·simp only [Act.put,List.setIfInBounds_toArray,List.set_cons_zero,List.set_cons_succ,i64_w,i32_w]
                        rfl
                       refine pure_ (i:=10) (N:=some 99) (v:=?_) (a':=?_) #[true,false,true,true,false,true,false,false,true,false,true,false,false,false,false,false,false,false] rfl rfl (any_of HT_.out (by kernel_rfl)) (fun _ _ _ h=>h) (Or.inl ⟨by rfl,?_⟩) ?_ ?_
                       rotate_left
                       ·intro w'
                        go_simp
                        with_reducible rfl
                       rotate_left
                       ·simp only [Act.put,List.setIfInBounds_toArray,List.set_cons_zero,List.set_cons_succ,i64_w,i32_w]
                        rfl
                       refine take_ (i:=1) (N:=some 90) (v:=?_) (a':=?_) #[true,true,true,true,false,true,false,false,true,false,true,false,false,false,false,false,false,false] rfl rfl (take_ofW HT_.out HW_.out (by kernel_rfl)) (fun _ _ _ h=>h) (Or.inl ⟨by rfl,?_⟩) hHeld ?_ ?_
                       rotate_left
                       ·rintro w' ⟨s0,s1,s2,s3,s4,s5,s6⟩
                        go_simp
                        with_reducible rfl
                       rotate_left
                       ·simp only [Act.put,List.setIfInBounds_toArray,List.set_cons_zero,List.set_cons_succ,i64_w,i32_w]
                        rfl
                       refine take_ (i:=4) (N:=some 93) (v:=?_) (a':=?_) #[true,true,true,true,true,true,false,false,true,false,true,false,false,false,false,false,false,false] rfl rfl (take_ofW HT_.out HW_.out (by kernel_rfl)) (fun _ _ _ h=>h) (Or.inl ⟨by rfl,?_⟩) hHeld ?_ ?_
                       rotate_left
                       ·rintro w' ⟨s0,s1,s2,s3,s4,s5,s6⟩
                        go_simp
                        with_reducible rfl
                       rotate_left
                       ·simp only [Act.put,List.setIfInBounds_toArray,List.set_cons_zero,List.set_cons_succ,i64_w,i32_w]
                        rfl
                       refine pure_ (i:=6) (N:=some 95) (v:=?_) (a':=?_) #[true,true,true,true,true,true,true,false,true,false,true,false,false,false,false,false,false,false] rfl rfl (any_of HT_.out (by kernel_rfl)) (fun _ _ _ h=>h) (Or.inl ⟨by rfl,?_⟩) ?_ ?_
                       rotate_left
                       ·intro w'
                        go_simp
                        with_reducible rfl
                       rotate_left
                       ·simp only [Act.put,List.setIfInBounds_toArray,List.set_cons_zero,List.set_cons_succ,i64_w,i32_w]
                        rfl
                       refine take_ (i:=7) (N:=some 96) (v:=?_) (a':=?_) #[true,true,true,true,true,true,true,true,true,false,true,false,false,false,false,false,false,false] rfl rfl (take_ofW HT_.out HW_.out (by kernel_rfl)) (fun _ _ _ h=>h) (Or.inl ⟨by rfl,?_⟩) hHeld ?_ ?_
                       rotate_left
                       ·rintro w' ⟨s0,s1,s2,s3,s4,s5,s6⟩
                        go_simp
                        with_reducible rfl
                       rotate_left
                       ·simp only [Act.put,List.setIfInBounds_toArray,List.set_cons_zero,List.set_cons_succ,i64_w,i32_w]
                        rfl
                       refine take_ (i:=9) (N:=some 98) (v:=?_) (a':=?_) #[true,true,true,true,true,true,true,true,true,true,true,false,false,false,false,false,false,false] rfl rfl (take_ofW HT_.out HW_.out (by kernel_rfl)) (fun _ _ _ h=>h) (Or.inl ⟨by rfl,?_⟩) hHeld ?_ ?_
                       rotate_left
                       ·rintro w' ⟨s0,s1,s2,s3,s4,s5,s6⟩
                        go_simp
                        with_reducible rfl
                       rotate_left
                       ·simp only [Act.put,List.setIfInBounds_toArray,List.set_cons_zero,List.set_cons_succ,i64_w,i32_w]
                        rfl
                       refine pure_ (i:=11) (N:=some 100) (v:=?_) (a':=?_) #[true,true,true,true,true,true,true,true,true,true,true,true,false,false,false,false,false,false] rfl rfl (any_of HT_.out (by kernel_rfl)) (fun _ _ _ h=>h) (Or.inl ⟨by rfl,?_⟩) ?_ ?_
                       rotate_left
                       ·intro w'
                        go_simp
                        with_reducible rfl
                       rotate_left
                       ·simp only [Act.put,List.setIfInBounds_toArray,List.set_cons_zero,List.set_cons_succ,i64_w,i32_w]
                        rfl
                       refine take_ (i:=12) (N:=some 101) (v:=?_) (a':=?_) #[true,true,true,true,true,true,true,true,true,true,true,true,true,false,false,false,false,false] rfl rfl (take_ofW HT_.out HW_.out (by kernel_rfl)) (fun _ _ _ h=>h) (Or.inl ⟨by rfl,?_⟩) hHeld ?_ ?_
                       rotate_left
                       ·rintro w' ⟨s0,s1,s2,s3,s4,s5,s6⟩
                        go_simp
                        with_reducible rfl
                       rotate_left
                       ·simp only [Act.put,List.setIfInBounds_toArray,List.set_cons_zero,List.set_cons_succ,i64_w,i32_w]
                        rfl
                       refine pure_ (i:=13) (N:=some 102) (v:=?_) (a':=?_) #[true,true,true,true,true,true,true,true,true,true,true,true,true,true,false,false,false,false] rfl rfl (any_of HT_.out (by kernel_rfl)) (fun _ _ _ h=>h) (Or.inl ⟨by rfl,?_⟩) ?_ ?_
                       rotate_left
                       ·intro w'
                        go_simp
                        with_reducible rfl
                       rotate_left
                       ·simp only [Act.put,List.setIfInBounds_toArray,List.set_cons_zero,List.set_cons_succ,i64_w,i32_w]
                        rfl
                       refine pure_ (i:=14) (N:=some 103) (v:=?_) (a':=?_) #[true,true,true,true,true,true,true,true,true,true,true,true,true,true,true,false,false,false] rfl rfl (any_of HT_.out (by kernel_rfl)) (fun _ _ _ h=>h) (Or.inl ⟨by rfl,?_⟩) ?_ ?_
                       rotate_left
                       ·intro w'
                        go_simp
                        with_reducible rfl
                       rotate_left
                       ·simp only [Act.put,List.setIfInBounds_toArray,List.set_cons_zero,List.set_cons_succ,i64_w,i32_w]
                        rfl
                       refine pure_ (i:=15) (N:=some 104) (v:=?_) (a':=?_) #[true,true,true,true,true,true,true,true,true,true,true,true,true,true,true,true,false,false] rfl rfl (any_of HT_.out (by kernel_rfl)) (fun _ _ _ h=>h) (Or.inl ⟨by rfl,?_⟩) ?_ ?_
                       rotate_left
                       ·intro w'
                        go_simp
                        with_reducible rfl
                       rotate_left
                       ·simp only [Act.put,List.setIfInBounds_toArray,List.set_cons_zero,List.set_cons_succ,i64_w,i32_w]
                        rfl
                       refine pure_ (i:=16) (N:=some 105) (v:=?_) (a':=?_) #[true,true,true,true,true,true,true,true,true,true,true,true,true,true,true,true,true,false] rfl rfl (any_of HT_.out (by kernel_rfl)) (fun _ _ _ h=>h) (Or.inl ⟨by rfl,?_⟩) ?_ ?_
                       rotate_left
                       ·intro w'
                        go_simp
                        with_reducible rfl
                       rotate_left
                       ·simp only [Act.put,List.setIfInBounds_toArray,List.set_cons_zero,List.set_cons_succ,i64_w,i32_w]
                        rfl
                       refine last_ (i:=17) (N:=none) #[true,true,true,true,true,true,true,true,true,true,true,true,true,true,true,true,true,true] rfl rfl (one_of HT_.out (by kernel_rfl)) (by decide) (fun K hK=>?_)
                       refine skip_ (w1:=?_) (by rfl) rfl ?_ ?_
                       rotate_left
                       ·go_simp
                        rfl
                       refine hK.out _ _ ?_
                       clear hK K
                       refine done_ (done_of HT_.out (by kernel_rfl)) ?_
                       try go_wp2
                       (try simp only [← hl5_2])
                       go_roundg kj12
                       case measure=>have:=HK1.out;have:=HK2.out;have:=HJ12.out;omega
                       case rel=>exact ⟨(x5_2),(wrap64 ((ji29)+1)),(y263),(.slice (some ⟨go39,0,none⟩) y256.length co45),(by first|rfl|(simp;done)|(simp only [← hji29]<;>(first|rfl|simp))|(simp [*];done)),H',⟨by have:=HK1.out;have:=HK2.out;have:=HJ12.out;omega⟩,⟨by (try simp only [hl5_2]);(with_reducible repeat (first|apply Kd.R_alloc|apply Kd.R_drewN|apply Kd.R_drew));exact Kd.R_mono (Kd.R_far (p:=⟨go39,((ji33):Int).toNat,none⟩) (Kd.R_mono HO_5.out (fun k_ hk=>(⟨hk,fun e_=>hk (by rw [e_];rfl)⟩:_∧k_≠go39))) (fun _ hk=>hk.2) (.string ((rdOf ByteArray.empty y256 (ji33)).extract 0 ((ji36):Int).toNat))) (fun _ hk=>hk.1)⟩,⟨by (try simp only [hl5_2]);(with_reducible repeat (first|apply Kd.S_alloc|apply Kd.S_drewN|apply Kd.S_drew));exact Kd.S_mono (Kd.S_far (p:=⟨go39,((ji33):Int).toNat,none⟩) (Kd.S_mono HO_6.out (fun k_ hk=>(⟨hk,fun e_=>hk.1 (by rw [e_];rfl)⟩:_∧k_≠go39))) (fun _ hk=>hk.2) (.string ((rdOf ByteArray.empty y256 (ji33)).extract 0 ((ji36):Int).toNat))) (fun _ hk=>⟨hk.1.2.1,⟨hk.1.1,hk.1.2.2⟩⟩)⟩,⟨by (try simp only [hl5_2]);(with_reducible repeat (first|apply Kd.R_alloc|apply Kd.R_drewN|apply Kd.R_drew));exact HQ51.out⟩,⟨by (try simp only [hl5_2]);(with_reducible repeat (first|refine blk_drewN ?_ _|refine blk_drew ?_|refine blk_alloc ?_ _));refine blk_far ?_ (by have h_:=Kd.R_ne HO258.out BK247.out (by decide);intro e_;exact h_ (by rw [e_];rfl)) _;(with_reducible repeat (first|refine blk_drewN ?_ _|refine blk_drew ?_|refine blk_alloc ?_ _));exact BK247.out⟩,⟨by repeat (first|(with_reducible first|exact HB.out|apply below_alloc|apply pw_below_drewN|apply below_drew1|refine below_set ?_ GB39.out|refine below_set ?_ GE247.out)|exact HB.out)⟩⟩
                      ·rw [if_neg c38] at H
                       exact absurd H (by simp)
                     ·rw [if_neg c37] at H
                      exact absurd H (by simp)
                    ·rw [if_neg c35] at H
                     exact absurd H (by simp)
                   ·rw [if_neg c34] at H
                    exact absurd H (by simp)
                  ·rw [if_neg c32] at H
                   have c32b0:((rdOf ByteArray.empty x5_2 (ji29)).toList == t260.toList)=false:=beq_eq_false_iff_ne.mpr c32
                   have c32b1:((rdOf ByteArray.empty x5_2 (ji29)).toList != t260.toList)=true:=bne_iff_ne.mpr c32
                   have H':=Aside0.mk H
                   clear H
                   try go_wp2
                   have n0_:=Aside0.mk (Kd.R_drew HO_5.out)
                   have n1_:=Aside0.mk (Kd.S_drew HO_6.out)
                   have n2_:=Aside0.mk (Kd.R_drew HO_248004.out)
                   have n3_:=Aside0.mk (blk_drew BK247.out)
                   have n4_:=Aside0.mk (below_drew1 HB.out)
                   clear HO_5
                   clear HO_6
                   clear HO_248004
                   clear BK247
                   clear HB
                   have HO_5:=n0_
                   have HO_6:=n1_
                   have HO_248004:=n2_
                   have BK247:=n3_
                   have HB:=n4_
                   clear n0_ n1_ n2_ n3_ n4_
                   have p253:0≤(x7_2:Int):=of_decide_eq_true (by first|(with_reducible assumption)|assumption)
                   have q253:x7_2<(x5_2.length:Int):=of_decide_eq_true (by first|(with_reducible assumption)|assumption)
                   obtain ⟨ad253,e253,hx253_0⟩:=Kd.at_string (Kd.R_reads' HO_5.out).2.2 x7_2 p253 q253
                   obtain rfl:ad238=ad253:=(by injection e253)
                   replace p253:=eq_true p253
                   replace q253:=eq_true q253
                   obtain ⟨Ao53,co53,eo53⟩:=Kd.R_slice HO_248004.out
                   (first|subst eo53|(injection eo53 with f1_ f2_ f3_;have f4_:=f1_.symm;have f5_:=f3_.symm;clear f1_ f2_ f3_;subst f4_;subst f5_))
                   refine start_ (n:=7) (S:=fun w'=>w'.cell? ⟨gb247,0,none⟩=some (.int .i64 t239)∧w'.cell? ⟨gb247,1,none⟩=some (.int .i64 t240)∧w'.cell? ⟨gb247,2,none⟩=some (.int .i64 t241)∧w'.cell? ⟨gb247,3,none⟩=some (.int .i64 t242)∧w'.cell? ⟨gb247,4,none⟩=some (.slice Ao53 x248004_2.length co53)∧w'.cell? (ad238.add (x7_2).toNat)=some (.string (rdOf ByteArray.empty x5_2 x7_2))) (ds:=[]) #[false,false,false,false,false,false,false] (by kernel_rfl) rfl rfl ⟨(blk_cell BK247.out 0).trans rfl,(blk_cell BK247.out 1).trans rfl,(blk_cell BK247.out 2).trans rfl,(blk_cell BK247.out 3).trans rfl,(blk_cell BK247.out 4).trans rfl,hx253_0⟩ (fun hHeld=>?_)
                   generalize wc.drew=w52 at HO_5 HO_6 HO_248004 BK247 HB hx253_0 hHeld ⊢
                   refine pure_ (i:=1) (N:=some 53) (v:=?_) (a':=?_) #[false,true,false,false,false,false,false] rfl rfl (by kernel_rfl) (fun _ _ _ h=>h) (Or.inl ⟨by rfl,?_⟩) ?_ ?_
                   rotate_left
                   ·intro w'
                    go_simp
                    with_reducible rfl
                   rotate_left
                   ·simp only [Act.put,List.setIfInBounds_toArray,List.set_cons_zero,List.set_cons_succ,i64_w,i32_w]
                    rfl
                   refine pure_ (i:=2) (N:=some 54) (v:=?_) (a':=?_) #[false,true,true,false,false,false,false] rfl rfl (by kernel_rfl) (fun _ _ _ h=>h) (Or.inl ⟨by rfl,?_⟩) ?_ ?_
                   rotate_left
                   ·intro w'
                    go_simp
                    with_reducible rfl
                   rotate_left
                   ·simp only [Act.put,List.setIfInBounds_toArray,List.set_cons_zero,List.set_cons_succ,i64_w,i32_w]
                    rfl
                   refine pure_ (i:=3) (N:=some 55) (v:=?_) (a':=?_) #[false,true,true,true,false,false,false] rfl rfl (by kernel_rfl) (fun _ _ _ h=>h) (Or.inl ⟨by rfl,?_⟩) ?_ ?_
                   rotate_left
                   ·intro w'
                    go_simp
                    with_reducible rfl
                   rotate_left
                   ·simp only [Act.put,List.setIfInBounds_toArray,List.set_cons_zero,List.set_cons_succ,i64_w,i32_w]
                    rfl
                   refine take_ (i:=0) (N:=some 52) (v:=?_) (a':=?_) #[true,true,true,true,false,false,false] rfl rfl (by kernel_rfl) (fun _ _ _ h=>h) (Or.inl ⟨by rfl,?_⟩) hHeld ?_ ?_
                   rotate_left
                   ·rintro w' ⟨s0,s1,s2,s3,s4,s5⟩
                    go_simp
                    with_reducible rfl
                   rotate_left
                   ·simp only [Act.put,List.setIfInBounds_toArray,List.set_cons_zero,List.set_cons_succ,i64_w,i32_w]
                    rfl
                   refine take_ (i:=4) (N:=some 56) (v:=?_) (a':=?_) #[true,true,true,true,true,false,false] rfl rfl (by kernel_rfl) (fun _ _ _ h=>h) (Or.inl ⟨by rfl,?_⟩) hHeld ?_ ?_
                   rotate_left
                   ·rintro w' ⟨s0,s1,s2,s3,s4,s5⟩
                    go_simp
                    with_reducible rfl
                   rotate_left
                   ·simp only [Act.put,List.setIfInBounds_toArray,List.set_cons_zero,List.set_cons_succ,i64_w,i32_w]
                    rfl
                   refine one_ (i:=5) (N:=some 57) #[true,true,true,true,true,true,false] rfl rfl (by kernel_rfl) (by decide) (fun K hK=>?_)
                   refine goes_ Tryd.func37 (by kernel_rfl) rfl #[.agg #[.int .i64 t239,.int .i64 t240,.int .i64 t241,.int .i64 t242,.slice Ao53 x248004_2.length co53],.string (rdOf ByteArray.empty x5_2 x7_2)] (by rfl) rfl rfl (by (try simp only [List.map_toArray,List.map_cons,List.map_nil]);first|done|rfl|(simp only [List.length_drop,List.length_take];rfl)) ?_
                   with_reducible refine (r06_fits.calls kj12 t239 t240 t241 t242 _ _ x248004_2 (rdOf ByteArray.empty x5_2 x7_2) true _ ?side1 ?side2 A25.out).mono ?_
                   (case side1=>repeat (first|exact (Kd.R_reads' HO_248004.out).2.2|(with_reducible refine Kd.C_alloc ?_ _)|(with_reducible refine Kd.C_drewN ?_ _)|(with_reducible refine Kd.C_drew ?_)))
                   (case side2=>exact (Kd.R_reads' HO_248004.out).2.1)
                   rintro e w54 ⟨rfl,hb⟩
                   have HS5_:=(hb.cell (World.block_lt_of_cell? _ _ (hHeld.2.2.2.2.2))).trans (hHeld.2.2.2.2.2)
                   refine ⟨_,rfl,?_⟩
                   have n0_:=Aside0.mk (Kd.R_below (by (with_reducible repeat (first|apply Kd.R_alloc|apply Kd.R_drewN|apply Kd.R_drew));exact HO_5.out) hb)
                   have n1_:=Aside0.mk (Kd.S_below (by (with_reducible repeat (first|apply Kd.S_alloc|apply Kd.S_drewN|apply Kd.S_drew));exact HO_6.out) hb)
                   have n2_:=Aside0.mk (Kd.R_below (by (with_reducible repeat (first|apply Kd.R_alloc|apply Kd.R_drewN|apply Kd.R_drew));exact HO_248004.out) hb)
                   have n3_:=Aside0.mk (blk_below (g:=gb247) (o:=.cells #[.int .i64 t239,.int .i64 t240,.int .i64 t241,.int .i64 t242,.slice Ao53 x248004_2.length co53] 41 (0,0)) (by (with_reducible repeat (first|refine blk_drewN ?_ _|refine blk_drew ?_|refine blk_alloc ?_ _));exact BK247.out) hb)
                   have n4_:=Aside0.mk (below_step (by repeat (first|(with_reducible first|exact HB.out|apply below_alloc|apply pw_below_drewN|apply below_drew1|refine below_set ?_ GE247.out)|exact HB.out)) hb)
                   clear HO_5
                   clear HO_6
                   clear HO_248004
                   clear BK247
                   clear HB
                   have HO_5:=n0_
                   have HO_6:=n1_
                   have HO_248004:=n2_
                   have BK247:=n3_
                   have HB:=n4_
                   clear n0_ n1_ n2_ n3_ n4_
                   (try clear hb)
                   (try clear hb2)
                   (try clear hk)
                   (try clear hi)
                   refine hK.out _ _ ⟨(blk_cell BK247.out 0).trans rfl,(blk_cell BK247.out 1).trans rfl,(blk_cell BK247.out 2).trans rfl,(blk_cell BK247.out 3).trans rfl,(blk_cell BK247.out 4).trans rfl,HS5_⟩ (fun hHeld=>?_)
                   clear hK K
                   refine norm_ (a':=?_) ?_ ?_
                   rotate_left
                   ·show Act.put _ (some 57) _=_
                    simp only [Act.put,List.setIfInBounds_toArray,List.set_cons_zero,List.set_cons_succ,i64_w,i32_w]
                    rfl
                   refine pure_ (i:=6) (N:=some 10) (v:=?_) (a':=?_) #[true,true,true,true,true,true,true] rfl rfl (by kernel_rfl) (fun _ _ _ h=>h) (Or.inl ⟨by rfl,?_⟩) ?_ ?_
                   rotate_left
                   ·intro w'
                    go_simp
                    with_reducible rfl
                   rotate_left
                   ·simp only [Act.put,List.setIfInBounds_toArray,List.set_cons_zero,List.set_cons_succ,i64_w,i32_w]
                    rfl
                   refine done_ (by kernel_rfl) ?_
                   try go_wp2
                   have n0_:=Aside0.mk (Kd.R_drew HO_5.out)
                   have n1_:=Aside0.mk (Kd.S_drew HO_6.out)
                   have n2_:=Aside0.mk (Kd.R_drew HO_248004.out)
                   have n3_:=Aside0.mk (blk_drew BK247.out)
                   have n4_:=Aside0.mk (below_drew1 HB.out)
                   clear HO_5
                   clear HO_6
                   clear HO_248004
                   clear BK247
                   clear HB
                   have HO_5:=n0_
                   have HO_6:=n1_
                   have HO_248004:=n2_
                   have BK247:=n3_
                   have HB:=n4_
                   clear n0_ n1_ n2_ n3_ n4_
                   have p255:0≤(x7_2:Int):=of_decide_eq_true (by first|(with_reducible assumption)|assumption)
                   have q255:x7_2<(x5_2.length:Int):=of_decide_eq_true (by first|(with_reducible assumption)|assumption)
                   obtain ⟨ad255,e255,hx255_0⟩:=Kd.at_string (Kd.R_reads' HO_5.out).2.2 x7_2 p255 q255
                   obtain rfl:ad238=ad255:=(by injection e255)
                   replace p255:=eq_true p255
                   replace q255:=eq_true q255
                   refine start_ (n:=10) (S:=fun w'=>w'.cell? ⟨gb247,0,none⟩=some (.int .i64 t239)∧w'.cell? ⟨gb247,1,none⟩=some (.int .i64 t240)∧w'.cell? ⟨gb247,2,none⟩=some (.int .i64 t241)∧w'.cell? ⟨gb247,3,none⟩=some (.int .i64 t242)∧w'.cell? ⟨gb247,4,none⟩=some (.slice Ao53 x248004_2.length co53)∧w'.cell? (ad238.add (x7_2).toNat)=some (.string (rdOf ByteArray.empty x5_2 x7_2))) (ds:=[7,9]) #[false,false,false,false,false,false,false,false,false,false] (by kernel_rfl) rfl rfl ⟨(blk_cell BK247.out 0).trans rfl,(blk_cell BK247.out 1).trans rfl,(blk_cell BK247.out 2).trans rfl,(blk_cell BK247.out 3).trans rfl,(blk_cell BK247.out 4).trans rfl,hx255_0⟩ (fun hHeld=>?_);refine with_tabW r06_Parse.tab15 r06_Parse.bits15 (fun HT_ HW_=>?_)
                   generalize w54.drew=w55 at HO_5 HO_6 HO_248004 BK247 HB hx255_0 hHeld ⊢
                   refine pure_ (i:=0) (N:=some 62) (v:=?_) (a':=?_) #[true,false,false,false,false,false,false,false,false,false] rfl rfl (any_of HT_.out (by kernel_rfl)) (fun _ _ _ h=>h) (Or.inl ⟨by rfl,?_⟩) ?_ ?_
                   rotate_left
                   ·intro w'
                    go_simp
                    with_reducible rfl
                   rotate_left
                   ·simp only [Act.put,List.setIfInBounds_toArray,List.set_cons_zero,List.set_cons_succ,i64_w,i32_w]
                    rfl
                   refine pure_ (i:=2) (N:=some 64) (v:=?_) (a':=?_) #[true,false,true,false,false,false,false,false,false,false] rfl rfl (any_of HT_.out (by kernel_rfl)) (fun _ _ _ h=>h) (Or.inl ⟨by rfl,?_⟩) ?_ ?_
                   rotate_left
                   ·intro w'
                    go_simp
                    with_reducible rfl
                   rotate_left
                   ·simp only [Act.put,List.setIfInBounds_toArray,List.set_cons_zero,List.set_cons_succ,i64_w,i32_w]
                    rfl
                   refine pure_ (i:=3) (N:=some 65) (v:=?_) (a':=?_) #[true,false,true,true,false,false,false,false,false,false] rfl rfl (any_of HT_.out (by kernel_rfl)) (fun _ _ _ h=>h) (Or.inl ⟨by rfl,?_⟩) ?_ ?_
                   rotate_left
                   ·intro w'
                    go_simp
                    with_reducible rfl
                   rotate_left
                   ·simp only [Act.put,List.setIfInBounds_toArray,List.set_cons_zero,List.set_cons_succ,i64_w,i32_w]
                    rfl
                   refine pure_ (i:=4) (N:=some 66) (v:=?_) (a':=?_) #[true,false,true,true,true,false,false,false,false,false] rfl rfl (any_of HT_.out (by kernel_rfl)) (fun _ _ _ h=>h) (Or.inl ⟨by rfl,?_⟩) ?_ ?_
                   rotate_left
                   ·intro w'
                    go_simp
                    with_reducible rfl
                   rotate_left
                   ·simp only [Act.put,List.setIfInBounds_toArray,List.set_cons_zero,List.set_cons_succ,i64_w,i32_w]
                    rfl
                   refine take_ (i:=1) (N:=some 63) (v:=?_) (a':=?_) #[true,true,true,true,true,false,false,false,false,false] rfl rfl (take_ofW HT_.out HW_.out (by kernel_rfl)) (fun _ _ _ h=>h) (Or.inl ⟨by rfl,?_⟩) hHeld ?_ ?_
                   rotate_left
                   ·rintro w' ⟨s0,s1,s2,s3,s4,s5⟩
                    go_simp
                    with_reducible rfl
                   rotate_left
                   ·simp only [Act.put,List.setIfInBounds_toArray,List.set_cons_zero,List.set_cons_succ,i64_w,i32_w]
                    rfl
                   refine take_ (i:=5) (N:=some 67) (v:=?_) (a':=?_) #[true,true,true,true,true,true,false,false,false,false] rfl rfl (take_ofW HT_.out HW_.out (by kernel_rfl)) (fun _ _ _ h=>h) (Or.inl ⟨by rfl,?_⟩) hHeld ?_ ?_
                   rotate_left
                   ·rintro w' ⟨s0,s1,s2,s3,s4,s5⟩
                    go_simp
                    with_reducible rfl
                   rotate_left
                   ·simp only [Act.put,List.setIfInBounds_toArray,List.set_cons_zero,List.set_cons_succ,i64_w,i32_w]
                    rfl
                   refine one_ (i:=6) (N:=some 68) #[true,true,true,true,true,true,true,false,false,false] rfl rfl (one_of HT_.out (by kernel_rfl)) (by decide) (fun K hK=>?_)
                   refine value_ (w1:=?_) (v:=?_) (by rfl) rfl ?_ ?_
                   rotate_left 2
                   ·go_simp
                    constructor
                    ·rfl
                    ·rfl
                   refine hK.out _ _ ⟨(blk_cell (blk_alloc BK247.out _) 0).trans rfl,(blk_cell (blk_alloc BK247.out _) 1).trans rfl,(blk_cell (blk_alloc BK247.out _) 2).trans rfl,(blk_cell (blk_alloc BK247.out _) 3).trans rfl,(blk_cell (blk_alloc BK247.out _) 4).trans rfl,(World.cell?_alloc_lt _ _ _ (World.block_lt_of_cell? _ _ (hHeld.2.2.2.2.2))).trans (hHeld.2.2.2.2.2)⟩ (fun hHeld=>?_)
                   clear hK K
                   refine norm_ (a':=?_) ?_ ?_
                   rotate_left
                   ·show Act.put _ (some 68) _=_
                    simp only [Act.put,List.setIfInBounds_toArray,List.set_cons_zero,List.set_cons_succ,i64_w,i32_w]
                    rfl
                   refine last_ (i:=7) (N:=some 69) #[true,true,true,true,true,true,true,true,false,false] rfl rfl (one_of HT_.out (by kernel_rfl)) (by decide) (fun K hK=>?_)
                   refine Kd.R_append_step Kd.string (w0:=w) w.heap.size (by rfl) (.tmp 63) (.tmp 68) 33 9 (.string ⟨#[]⟩) 16 rfl Tryd.underlying33 info9 rfl (by decide) (by omega) (.slice Ao53 x248004_2.length co53) x248004_2 (rdOf ByteArray.empty x5_2 x7_2) [.string (rdOf ByteArray.empty x5_2 x7_2)] (fun k_=>some k_≠(.slice (some ad238) x5_2.length co8:Value).ownBlock) (fun _=>False) rfl rfl ?aP (fun _ hk=>hk.elim) ?aF ?aO ?aB ?aS ?aL ?_
                   (case aP=>exact rfl)
                   (case aB=>exact (by repeat (first|(with_reducible first|exact HB.out|apply below_alloc|apply pw_below_drewN|apply below_drew1|refine below_set ?_ GE247.out)|exact HB.out)))
                   (case aF=>exact (fun k_ hk=>Kd.fresh' (Kd.R_lt (by (with_reducible repeat (first|apply Kd.R_alloc|apply Kd.R_drewN|apply Kd.R_drew));exact HO_5.out)) k_ hk))
                   (case aO=>exact (by (with_reducible repeat (first|apply Kd.R_alloc|apply Kd.R_drewN|apply Kd.R_drew));exact HO_248004.out))
                   (case aS=>exact (below_size (by repeat (first|(with_reducible first|exact HB.out|apply below_alloc|apply pw_below_drewN|apply below_drew1|refine below_set ?_ GE247.out)|exact HB.out))))
                   (case aL=>have:=LMc27.out;omega)
                   intro v257 w56 ho hb hg hat
                   rw [← Ny256.out] at ho
                   have n0_:=Aside0.mk (Kd.R_after (ok:=(fun _=>True)) (by (with_reducible repeat (first|apply Kd.R_alloc|apply Kd.R_drewN|apply Kd.R_drew));exact Kd.R_mono HO_5.out (fun _ hk=>⟨trivial,hk⟩)) hg hat)
                   have n1_:=Aside0.mk (Kd.S_after (ok:=(fun k_=>some k_≠(.slice (some ad238) x5_2.length co8:Value).ownBlock∧k_≠gb247)) (by (with_reducible repeat (first|apply Kd.S_alloc|apply Kd.S_drewN|apply Kd.S_drew));exact Kd.S_mono HO_6.out (fun _ hk=>⟨⟨hk.1,hk.2.2⟩,hk.2.1⟩)) hg hat)
                   have n2_:=Aside0.mk (blk_grown (g:=gb247) (o:=.cells #[.int .i64 t239,.int .i64 t240,.int .i64 t241,.int .i64 t242,.slice Ao53 x248004_2.length co53] 41 (0,0)) (by (with_reducible repeat (first|refine blk_drewN ?_ _|refine blk_drew ?_|refine blk_alloc ?_ _));exact BK247.out) hg (Kd.R_ne HO_248004.out BK247.out (by decide)))
                   have n3_:=Aside0.mk (hb)
                   have n4_:=Aside0.mk (ho)
                   clear HO_5
                   clear HO_6
                   clear BK247
                   clear HB
                   clear HO_248004
                   have HO_5:=n0_
                   have HO_6:=n1_
                   have BK247:=n2_
                   have HB:=n3_
                   have HO258:=n4_
                   clear n0_ n1_ n2_ n3_ n4_
                   clear ho hb hg hat
                   obtain ⟨Ao57,co57,eo57⟩:=Kd.R_slice HO258.out
                   (first|subst eo57|(injection eo57 with f1_ f2_ f3_;have f4_:=f1_.symm;have f5_:=f3_.symm;clear f1_ f2_ f3_;subst f4_;subst f5_))
                   refine hK.out _ _ ?_
                   clear hK K
                   refine norm_ (a':=?_) ?_ ?_
                   rotate_left
                   ·show Act.put _ (some 69) _=_
                    simp only [Act.put,List.setIfInBounds_toArray,List.set_cons_zero,List.set_cons_succ,i64_w,i32_w]
                    rfl
                   refine pure_ (i:=8) (N:=some 70) (v:=?_) (a':=?_) #[true,true,true,true,true,true,true,true,true,false] rfl rfl (any_of HT_.out (by kernel_rfl)) (fun _ _ _ h=>h) (Or.inl ⟨by rfl,?_⟩) ?_ ?_
                   rotate_left
                   ·intro w'
                    go_simp
                    with_reducible rfl
                   rotate_left
                   ·simp only [Act.put,List.setIfInBounds_toArray,List.set_cons_zero,List.set_cons_succ,i64_w,i32_w]
                    rfl
                   refine last_ (i:=9) (N:=none) #[true,true,true,true,true,true,true,true,true,true] rfl rfl (one_of HT_.out (by kernel_rfl)) (by decide) (fun K hK=>?_)
                   have hs58:w56.cell? ⟨gb247,4,none⟩=some (.slice Ao53 x248004_2.length co53):=(blk_cell BK247.out 4).trans rfl
                   have hfs58:=blk_frozen BK247.out 4
                   refine skip_ (w1:=?_) (by rfl) rfl ?_ ?_
                   rotate_left
                   ·go_simp
                    rfl
                   refine hK.out _ _ ?_
                   clear hK K
                   refine done_ (done_of HT_.out (by kernel_rfl)) ?_
                   try go_wp2
                   have n0_:Aside0 (Kd.R Kd.string 9 (w56.setCell ⟨gb247,4,none⟩ (.slice Ao57 y256.length co57)) w.heap.size (fun k_=>some k_≠(.slice Ao57 y256.length co57:Value).ownBlock) (.slice (some ad238) x5_2.length co8) x5_2):=⟨by (with_reducible repeat (first|apply Kd.R_alloc|apply Kd.R_drewN|apply Kd.R_drew));exact Kd.R_mono (Kd.R_far (p:=⟨gb247,4,none⟩) (Kd.R_types HO_5.out BK247.out (by decide)) (fun _ hk=>hk.2) (.slice Ao57 y256.length co57)) (fun _ hk=>hk.1.2)⟩
                   have n1_:Aside0 (Kd.S k41 41 (w56.setCell ⟨gb247,4,none⟩ (.slice Ao57 y256.length co57)) w.heap.size (fun k_=>some k_≠(.slice (some ad238) x5_2.length co8:Value).ownBlock∧some k_≠(.slice Ao57 y256.length co57:Value).ownBlock∧k_≠gb247) u6 x6_1):=⟨by (with_reducible repeat (first|apply Kd.S_alloc|apply Kd.S_drewN|apply Kd.S_drew));exact Kd.S_mono (Kd.S_far (p:=⟨gb247,4,none⟩) (Kd.S_mono HO_6.out (fun k_ hk=>(⟨hk,hk.1.2⟩:_∧k_≠gb247))) (fun _ hk=>hk.2) (.slice Ao57 y256.length co57)) (fun _ hk=>⟨hk.1.1.1,⟨hk.1.2,hk.1.1.2⟩⟩)⟩
                   have n2_:Aside0 (Kd.R Kd.string 9 (w56.setCell ⟨gb247,4,none⟩ (.slice Ao57 y256.length co57)) w.heap.size (fun k_=>some k_≠(.slice (some ad238) x5_2.length co8:Value).ownBlock) (.slice Ao57 y256.length co57) y256):=⟨by (with_reducible repeat (first|apply Kd.R_alloc|apply Kd.R_drewN|apply Kd.R_drew));exact Kd.R_mono (Kd.R_far (p:=⟨gb247,4,none⟩) (Kd.R_types HO258.out BK247.out (by decide)) (fun _ hk=>hk.2) (.slice Ao57 y256.length co57)) (fun _ hk=>hk.1)⟩
                   have n3_:Aside0 ((w56.setCell ⟨gb247,4,none⟩ (.slice Ao57 y256.length co57)).heap[gb247]?=some (.cells #[.int .i64 t239,.int .i64 t240,.int .i64 t241,.int .i64 t242,.slice Ao57 y256.length co57] 41 (0,0))):=⟨by (with_reducible repeat (first|refine blk_drewN ?_ _|refine blk_drew ?_|refine blk_alloc ?_ _));refine blk_put (cs:=#[.int .i64 t239,.int .i64 t240,.int .i64 t241,.int .i64 t242,.slice Ao53 x248004_2.length co53]) ?_ 4 _ rfl;(with_reducible repeat (first|refine blk_drewN ?_ _|refine blk_drew ?_|refine blk_alloc ?_ _));exact BK247.out⟩
                   have n4_:Aside0 (Below w.heap.size w (w56.setCell ⟨gb247,4,none⟩ (.slice Ao57 y256.length co57))):=⟨by repeat (first|(with_reducible first|exact HB.out|apply below_alloc|apply pw_below_drewN|apply below_drew1|refine below_set ?_ GE247.out)|exact HB.out)⟩
                   (try clear HO_5)
                   (try clear HO_6)
                   (try clear HO258)
                   (try clear BK247)
                   (try clear HB)
                   generalize (w56.setCell ⟨gb247,4,none⟩ (.slice Ao57 y256.length co57))=w59 at n0_ n1_ n2_ n3_ n4_ ⊢
                   have HO_5:=n0_
                   have HO_6:=n1_
                   have HO258:=n2_
                   have BK247:=n3_
                   have HB:=n4_
                   clear n0_ n1_ n2_ n3_ n4_
                   have n0_:=Aside0.mk (Kd.R_drew HO_5.out)
                   have n1_:=Aside0.mk (Kd.S_drew HO_6.out)
                   have n2_:=Aside0.mk (Kd.R_drew HO258.out)
                   have n3_:=Aside0.mk (blk_drew BK247.out)
                   have n4_:=Aside0.mk (below_drew1 HB.out)
                   clear HO_5
                   clear HO_6
                   clear HO258
                   clear BK247
                   clear HB
                   have HO_5:=n0_
                   have HO_6:=n1_
                   have HO258:=n2_
                   have BK247:=n3_
                   have HB:=n4_
                   clear n0_ n1_ n2_ n3_ n4_
                   have p259:0≤((ji29):Int):=of_decide_eq_true (by first|(with_reducible assumption)|assumption)
                   have q259:(ji29)<(x5_2.length:Int):=of_decide_eq_true (by first|(with_reducible assumption)|assumption)
                   obtain ⟨ad259,e259,hx259_0⟩:=Kd.at_string (Kd.R_reads' HO_5.out).2.2 (ji29) p259 q259
                   obtain rfl:ad238=ad259:=(by injection e259)
                   replace p259:=eq_true p259
                   replace q259:=eq_true q259
                   refine start_ (n:=12) (S:=fun w'=>w'.cell? (ad238.add ((ji29)).toNat)=some (.string (rdOf ByteArray.empty x5_2 (ji29)))) (ds:=[]) #[false,false,false,false,false,false,false,false,false,false,false,false] (by kernel_rfl) rfl rfl (hx259_0) (fun hHeld=>?_);refine with_tabW r06_Parse.tab17 r06_Parse.bits17 (fun HT_ HW_=>?_)
                   generalize w59.drew=w60 at HO_5 HO_6 HO258 BK247 HB hx259_0 hHeld ⊢
                   refine pure_ (i:=0) (N:=some 73) (v:=?_) (a':=?_) #[true,false,false,false,false,false,false,false,false,false,false,false] rfl rfl (any_of HT_.out (by kernel_rfl)) (fun _ _ _ h=>h) (Or.inl ⟨by rfl,?_⟩) ?_ ?_
                   rotate_left
                   ·intro w'
                    go_simp
                    with_reducible rfl
                   rotate_left
                   ·simp only [Act.put,List.setIfInBounds_toArray,List.set_cons_zero,List.set_cons_succ,i64_w,i32_w]
                    rfl
                   refine pure_ (i:=1) (N:=some 74) (v:=?_) (a':=?_) #[true,true,false,false,false,false,false,false,false,false,false,false] rfl rfl (any_of HT_.out (by kernel_rfl)) (fun _ _ _ h=>h) (Or.inl ⟨by rfl,?_⟩) ?_ ?_
                   rotate_left
                   ·intro w'
                    go_simp
                    with_reducible rfl
                   rotate_left
                   ·simp only [Act.put,List.setIfInBounds_toArray,List.set_cons_zero,List.set_cons_succ,i64_w,i32_w]
                    rfl
                   refine pure_ (i:=2) (N:=some 75) (v:=?_) (a':=?_) #[true,true,true,false,false,false,false,false,false,false,false,false] rfl rfl (any_of HT_.out (by kernel_rfl)) (fun _ _ _ h=>h) (Or.inl ⟨by rfl,?_⟩) ?_ ?_
                   rotate_left
                   ·intro w'
                    go_simp
                    with_reducible rfl
                   rotate_left
                   ·simp only [Act.put,List.setIfInBounds_toArray,List.set_cons_zero,List.set_cons_succ,i64_w,i32_w]
                    rfl
                   refine pure_ (i:=3) (N:=some 76) (v:=?_) (a':=?_) #[true,true,true,true,false,false,false,false,false,false,false,false] rfl rfl (any_of HT_.out (by kernel_rfl)) (fun _ _ _ h=>h) (Or.inl ⟨by rfl,?_⟩) ?_ ?_
                   rotate_left
                   ·intro w'
                    go_simp
                    with_reducible rfl
                   rotate_left
                   ·simp only [Act.put,List.setIfInBounds_toArray,List.set_cons_zero,List.set_cons_succ,i64_w,i32_w]
                    rfl
                   refine pure_ (i:=4) (N:=some 77) (v:=?_) (a':=?_) #[true,true,true,true,true,false,false,false,false,false,false,false] rfl rfl (any_of HT_.out (by kernel_rfl)) (fun _ _ _ h=>h) (Or.inl ⟨by rfl,?_⟩) ?_ ?_
                   rotate_left
                   ·intro w'
                    go_simp
                    with_reducible rfl
                   rotate_left
                   ·simp only [Act.put,List.setIfInBounds_toArray,List.set_cons_zero,List.set_cons_succ,i64_w,i32_w]
                    rfl
                   refine pure_ (i:=5) (N:=some 78) (v:=?_) (a':=?_) #[true,true,true,true,true,true,false,false,false,false,false,false] rfl rfl (any_of HT_.out (by kernel_rfl)) (fun _ _ _ h=>h) (Or.inl ⟨by rfl,?_⟩) ?_ ?_
                   rotate_left
                   ·intro w'
                    go_simp
                    with_reducible rfl
                   rotate_left
                   ·simp only [Act.put,List.setIfInBounds_toArray,List.set_cons_zero,List.set_cons_succ,i64_w,i32_w]
                    rfl
                   refine pure_ (i:=6) (N:=some 79) (v:=?_) (a':=?_) #[true,true,true,true,true,true,true,false,false,false,false,false] rfl rfl (any_of HT_.out (by kernel_rfl)) (fun _ _ _ h=>h) (Or.inl ⟨by rfl,?_⟩) ?_ ?_
                   rotate_left
                   ·intro w'
                    go_simp
                    with_reducible rfl
                   rotate_left
                   ·simp only [Act.put,List.setIfInBounds_toArray,List.set_cons_zero,List.set_cons_succ,i64_w,i32_w]
                    rfl
                   refine pure_ (i:=7) (N:=some 80) (v:=?_) (a':=?_) #[true,true,true,true,true,true,true,true,false,false,false,false] rfl rfl (any_of HT_.out (by kernel_rfl)) (fun _ _ _ h=>h) (Or.inl ⟨by rfl,?_⟩) ?_ ?_
                   rotate_left
                   ·intro w'
                    go_simp
                    with_reducible rfl
                   rotate_left
                   ·simp only [Act.put,List.setIfInBounds_toArray,List.set_cons_zero,List.set_cons_succ,i64_w,i32_w]
                    rfl
                   refine take_ (i:=8) (N:=some 81) (v:=?_) (a':=?_) #[true,true,true,true,true,true,true,true,true,false,false,false] rfl rfl (take_ofW HT_.out HW_.out (by kernel_rfl)) (fun _ _ _ h=>h) (Or.inl ⟨by rfl,?_⟩) hHeld ?_ ?_
                   rotate_left
                   ·intro w' s0
                    go_simp
                    with_reducible rfl
                   rotate_left
                   ·simp only [Act.put,List.setIfInBounds_toArray,List.set_cons_zero,List.set_cons_succ,i64_w,i32_w]
                    rfl
                   refine one_ (i:=9) (N:=some 82) #[true,true,true,true,true,true,true,true,true,true,false,false] rfl rfl (one_of HT_.out (by kernel_rfl)) (by decide) (fun K hK=>?_)
                   refine goes_ Tryd.func30 (by kernel_rfl) rfl #[] (by rfl) rfl rfl (by (try simp only [List.map_toArray,List.map_cons,List.map_nil]);first|done|rfl|(simp only [List.length_drop,List.length_take];rfl)) ?_
                   with_reducible refine (r06_mark.calls  t260 _ A31.out).mono ?_
                   rintro e w' ⟨rfl,⟨nd,rfl⟩⟩
                   refine ⟨_,rfl,?_⟩
                   refine hK.out _ _ (hHeld) (fun hHeld=>?_)
                   clear hK K
                   refine norm_ (a':=?_) ?_ ?_
                   rotate_left
                   ·show Act.put _ (some 82) _=_
                    simp only [Act.put,List.setIfInBounds_toArray,List.set_cons_zero,List.set_cons_succ,i64_w,i32_w]
                    rfl
                   refine pure_ (i:=10) (N:=some 83) (v:=?_) (a':=?_) #[true,true,true,true,true,true,true,true,true,true,true,false] rfl rfl (any_of HT_.out (by kernel_rfl)) (fun _ _ _ h=>h) (Or.inl ⟨by rfl,?_⟩) ?_ ?_
                   rotate_left
                   ·intro w'
                    go_simp
                    with_reducible rfl
                   rotate_left
                   ·simp only [Act.put,List.setIfInBounds_toArray,List.set_cons_zero,List.set_cons_succ,i64_w,i32_w]
                    rfl
                   refine pure_ (i:=11) (N:=some 84) (v:=?_) (a':=?_) #[true,true,true,true,true,true,true,true,true,true,true,true] rfl rfl (any_of HT_.out (by kernel_rfl)) (fun _ _ _ h=>h) (Or.inl ⟨by rfl,?_⟩) ?_ ?_
                   rotate_left
                   ·intro w'
                    go_simp
                    with_reducible rfl
                   rotate_left
                   ·simp only [Act.put,List.setIfInBounds_toArray,List.set_cons_zero,List.set_cons_succ,i64_w,i32_w]
                    rfl
                   refine done_ (done_of HT_.out (by kernel_rfl)) ?_
                   try go_wp2
                   (try simp only [← hl5_2])
                   go_roundg kj12
                   case measure=>have:=HK1.out;have:=HK2.out;have:=HJ12.out;omega
                   case rel=>exact ⟨(x5_2),(ji29),(y256),(.slice Ao57 y256.length co57),(by first|rfl|(simp;done)|(simp only [← hji29]<;>(first|rfl|simp))|(simp [*];done)),H',⟨by have:=HK1.out;have:=HK2.out;have:=HJ12.out;omega⟩,⟨by (try simp only [hl5_2]);(with_reducible repeat (first|apply Kd.R_alloc|apply Kd.R_drewN|apply Kd.R_drew));exact HO_5.out⟩,⟨by (try simp only [hl5_2]);(with_reducible repeat (first|apply Kd.S_alloc|apply Kd.S_drewN|apply Kd.S_drew));exact HO_6.out⟩,⟨by (try simp only [hl5_2]);(with_reducible repeat (first|apply Kd.R_alloc|apply Kd.R_drewN|apply Kd.R_drew));exact HO258.out⟩,⟨by (try simp only [hl5_2]);(with_reducible repeat (first|refine blk_drewN ?_ _|refine blk_drew ?_|refine blk_alloc ?_ _));exact BK247.out⟩,⟨by repeat (first|(with_reducible first|exact HB.out|apply below_alloc|apply pw_below_drewN|apply below_drew1|refine below_set ?_ GE247.out)|exact HB.out)⟩⟩
                 ·rw [if_neg c30] at H
                  exact absurd H (by simp)
                ·rw [if_neg c28] at H
                 have c28b0:decide ((wrap64 (x7_2+1))<(x5_2.length:Int))=false:=decide_eq_false c28
                 clear c28
                 have H':=Aside0.mk H
                 clear H
                 try go_wp2
                 have n0_:=Aside0.mk (Kd.R_drew HO_5.out)
                 have n1_:=Aside0.mk (Kd.S_drew HO_6.out)
                 have n2_:=Aside0.mk (Kd.R_drew HO_248004.out)
                 have n3_:=Aside0.mk (blk_drew BK247.out)
                 have n4_:=Aside0.mk (below_drew1 HB.out)
                 clear HO_5
                 clear HO_6
                 clear HO_248004
                 clear BK247
                 clear HB
                 have HO_5:=n0_
                 have HO_6:=n1_
                 have HO_248004:=n2_
                 have BK247:=n3_
                 have HB:=n4_
                 clear n0_ n1_ n2_ n3_ n4_
                 have p253:0≤(x7_2:Int):=of_decide_eq_true (by first|(with_reducible assumption)|assumption)
                 have q253:x7_2<(x5_2.length:Int):=of_decide_eq_true (by first|(with_reducible assumption)|assumption)
                 obtain ⟨ad253,e253,hx253_0⟩:=Kd.at_string (Kd.R_reads' HO_5.out).2.2 x7_2 p253 q253
                 obtain rfl:ad238=ad253:=(by injection e253)
                 replace p253:=eq_true p253
                 replace q253:=eq_true q253
                 obtain ⟨Ao62,co62,eo62⟩:=Kd.R_slice HO_248004.out
                 (first|subst eo62|(injection eo62 with f1_ f2_ f3_;have f4_:=f1_.symm;have f5_:=f3_.symm;clear f1_ f2_ f3_;subst f4_;subst f5_))
                 refine start_ (n:=7) (S:=fun w'=>w'.cell? ⟨gb247,0,none⟩=some (.int .i64 t239)∧w'.cell? ⟨gb247,1,none⟩=some (.int .i64 t240)∧w'.cell? ⟨gb247,2,none⟩=some (.int .i64 t241)∧w'.cell? ⟨gb247,3,none⟩=some (.int .i64 t242)∧w'.cell? ⟨gb247,4,none⟩=some (.slice Ao62 x248004_2.length co62)∧w'.cell? (ad238.add (x7_2).toNat)=some (.string (rdOf ByteArray.empty x5_2 x7_2))) (ds:=[]) #[false,false,false,false,false,false,false] (by kernel_rfl) rfl rfl ⟨(blk_cell BK247.out 0).trans rfl,(blk_cell BK247.out 1).trans rfl,(blk_cell BK247.out 2).trans rfl,(blk_cell BK247.out 3).trans rfl,(blk_cell BK247.out 4).trans rfl,hx253_0⟩ (fun hHeld=>?_)
                 generalize wc.drew=w61 at HO_5 HO_6 HO_248004 BK247 HB hx253_0 hHeld ⊢
                 refine pure_ (i:=1) (N:=some 53) (v:=?_) (a':=?_) #[false,true,false,false,false,false,false] rfl rfl (by kernel_rfl) (fun _ _ _ h=>h) (Or.inl ⟨by rfl,?_⟩) ?_ ?_
                 rotate_left
                 ·intro w'
                  go_simp
                  with_reducible rfl
                 rotate_left
                 ·simp only [Act.put,List.setIfInBounds_toArray,List.set_cons_zero,List.set_cons_succ,i64_w,i32_w]
                  rfl
                 refine pure_ (i:=2) (N:=some 54) (v:=?_) (a':=?_) #[false,true,true,false,false,false,false] rfl rfl (by kernel_rfl) (fun _ _ _ h=>h) (Or.inl ⟨by rfl,?_⟩) ?_ ?_
                 rotate_left
                 ·intro w'
                  go_simp
                  with_reducible rfl
                 rotate_left
                 ·simp only [Act.put,List.setIfInBounds_toArray,List.set_cons_zero,List.set_cons_succ,i64_w,i32_w]
                  rfl
                 refine pure_ (i:=3) (N:=some 55) (v:=?_) (a':=?_) #[false,true,true,true,false,false,false] rfl rfl (by kernel_rfl) (fun _ _ _ h=>h) (Or.inl ⟨by rfl,?_⟩) ?_ ?_
                 rotate_left
                 ·intro w'
                  go_simp
                  with_reducible rfl
                 rotate_left
                 ·simp only [Act.put,List.setIfInBounds_toArray,List.set_cons_zero,List.set_cons_succ,i64_w,i32_w]
                  rfl
                 refine take_ (i:=0) (N:=some 52) (v:=?_) (a':=?_) #[true,true,true,true,false,false,false] rfl rfl (by kernel_rfl) (fun _ _ _ h=>h) (Or.inl ⟨by rfl,?_⟩) hHeld ?_ ?_
                 rotate_left
                 ·rintro w' ⟨s0,s1,s2,s3,s4,s5⟩
                  go_simp
                  with_reducible rfl
                 rotate_left
                 ·simp only [Act.put,List.setIfInBounds_toArray,List.set_cons_zero,List.set_cons_succ,i64_w,i32_w]
                  rfl
                 refine take_ (i:=4) (N:=some 56) (v:=?_) (a':=?_) #[true,true,true,true,true,false,false] rfl rfl (by kernel_rfl) (fun _ _ _ h=>h) (Or.inl ⟨by rfl,?_⟩) hHeld ?_ ?_
                 rotate_left
                 ·rintro w' ⟨s0,s1,s2,s3,s4,s5⟩
                  go_simp
                  with_reducible rfl
                 rotate_left
                 ·simp only [Act.put,List.setIfInBounds_toArray,List.set_cons_zero,List.set_cons_succ,i64_w,i32_w]
                  rfl
                 refine one_ (i:=5) (N:=some 57) #[true,true,true,true,true,true,false] rfl rfl (by kernel_rfl) (by decide) (fun K hK=>?_)
                 refine goes_ Tryd.func37 (by kernel_rfl) rfl #[.agg #[.int .i64 t239,.int .i64 t240,.int .i64 t241,.int .i64 t242,.slice Ao62 x248004_2.length co62],.string (rdOf ByteArray.empty x5_2 x7_2)] (by rfl) rfl rfl (by (try simp only [List.map_toArray,List.map_cons,List.map_nil]);first|done|rfl|(simp only [List.length_drop,List.length_take];rfl)) ?_
                 with_reducible refine (r06_fits.calls kj12 t239 t240 t241 t242 _ _ x248004_2 (rdOf ByteArray.empty x5_2 x7_2) true _ ?side1 ?side2 A25.out).mono ?_
                 (case side1=>repeat (first|exact (Kd.R_reads' HO_248004.out).2.2|(with_reducible refine Kd.C_alloc ?_ _)|(with_reducible refine Kd.C_drewN ?_ _)|(with_reducible refine Kd.C_drew ?_)))
                 (case side2=>exact (Kd.R_reads' HO_248004.out).2.1)
                 rintro e w63 ⟨rfl,hb⟩
                 have HS5_:=(hb.cell (World.block_lt_of_cell? _ _ (hHeld.2.2.2.2.2))).trans (hHeld.2.2.2.2.2)
                 refine ⟨_,rfl,?_⟩
                 have n0_:=Aside0.mk (Kd.R_below (by (with_reducible repeat (first|apply Kd.R_alloc|apply Kd.R_drewN|apply Kd.R_drew));exact HO_5.out) hb)
                 have n1_:=Aside0.mk (Kd.S_below (by (with_reducible repeat (first|apply Kd.S_alloc|apply Kd.S_drewN|apply Kd.S_drew));exact HO_6.out) hb)
                 have n2_:=Aside0.mk (Kd.R_below (by (with_reducible repeat (first|apply Kd.R_alloc|apply Kd.R_drewN|apply Kd.R_drew));exact HO_248004.out) hb)
                 have n3_:=Aside0.mk (blk_below (g:=gb247) (o:=.cells #[.int .i64 t239,.int .i64 t240,.int .i64 t241,.int .i64 t242,.slice Ao62 x248004_2.length co62] 41 (0,0)) (by (with_reducible repeat (first|refine blk_drewN ?_ _|refine blk_drew ?_|refine blk_alloc ?_ _));exact BK247.out) hb)
                 have n4_:=Aside0.mk (below_step (by repeat (first|(with_reducible first|exact HB.out|apply below_alloc|apply pw_below_drewN|apply below_drew1|refine below_set ?_ GE247.out)|exact HB.out)) hb)
                 clear HO_5
                 clear HO_6
                 clear HO_248004
                 clear BK247
                 clear HB
                 have HO_5:=n0_
                 have HO_6:=n1_
                 have HO_248004:=n2_
                 have BK247:=n3_
                 have HB:=n4_
                 clear n0_ n1_ n2_ n3_ n4_
                 (try clear hb)
                 (try clear hb2)
                 (try clear hk)
                 (try clear hi)
                 refine hK.out _ _ ⟨(blk_cell BK247.out 0).trans rfl,(blk_cell BK247.out 1).trans rfl,(blk_cell BK247.out 2).trans rfl,(blk_cell BK247.out 3).trans rfl,(blk_cell BK247.out 4).trans rfl,HS5_⟩ (fun hHeld=>?_)
                 clear hK K
                 refine norm_ (a':=?_) ?_ ?_
                 rotate_left
                 ·show Act.put _ (some 57) _=_
                  simp only [Act.put,List.setIfInBounds_toArray,List.set_cons_zero,List.set_cons_succ,i64_w,i32_w]
                  rfl
                 refine pure_ (i:=6) (N:=some 10) (v:=?_) (a':=?_) #[true,true,true,true,true,true,true] rfl rfl (by kernel_rfl) (fun _ _ _ h=>h) (Or.inl ⟨by rfl,?_⟩) ?_ ?_
                 rotate_left
                 ·intro w'
                  go_simp
                  with_reducible rfl
                 rotate_left
                 ·simp only [Act.put,List.setIfInBounds_toArray,List.set_cons_zero,List.set_cons_succ,i64_w,i32_w]
                  rfl
                 refine done_ (by kernel_rfl) ?_
                 try go_wp2
                 have n0_:=Aside0.mk (Kd.R_drew HO_5.out)
                 have n1_:=Aside0.mk (Kd.S_drew HO_6.out)
                 have n2_:=Aside0.mk (Kd.R_drew HO_248004.out)
                 have n3_:=Aside0.mk (blk_drew BK247.out)
                 have n4_:=Aside0.mk (below_drew1 HB.out)
                 clear HO_5
                 clear HO_6
                 clear HO_248004
                 clear BK247
                 clear HB
                 have HO_5:=n0_
                 have HO_6:=n1_
                 have HO_248004:=n2_
                 have BK247:=n3_
                 have HB:=n4_
                 clear n0_ n1_ n2_ n3_ n4_
                 have p255:0≤(x7_2:Int):=of_decide_eq_true (by first|(with_reducible assumption)|assumption)
                 have q255:x7_2<(x5_2.length:Int):=of_decide_eq_true (by first|(with_reducible assumption)|assumption)
                 obtain ⟨ad255,e255,hx255_0⟩:=Kd.at_string (Kd.R_reads' HO_5.out).2.2 x7_2 p255 q255
                 obtain rfl:ad238=ad255:=(by injection e255)
                 replace p255:=eq_true p255
                 replace q255:=eq_true q255
                 refine start_ (n:=10) (S:=fun w'=>w'.cell? ⟨gb247,0,none⟩=some (.int .i64 t239)∧w'.cell? ⟨gb247,1,none⟩=some (.int .i64 t240)∧w'.cell? ⟨gb247,2,none⟩=some (.int .i64 t241)∧w'.cell? ⟨gb247,3,none⟩=some (.int .i64 t242)∧w'.cell? ⟨gb247,4,none⟩=some (.slice Ao62 x248004_2.length co62)∧w'.cell? (ad238.add (x7_2).toNat)=some (.string (rdOf ByteArray.empty x5_2 x7_2))) (ds:=[7,9]) #[false,false,false,false,false,false,false,false,false,false] (by kernel_rfl) rfl rfl ⟨(blk_cell BK247.out 0).trans rfl,(blk_cell BK247.out 1).trans rfl,(blk_cell BK247.out 2).trans rfl,(blk_cell BK247.out 3).trans rfl,(blk_cell BK247.out 4).trans rfl,hx255_0⟩ (fun hHeld=>?_);refine with_tabW r06_Parse.tab15 r06_Parse.bits15 (fun HT_ HW_=>?_)
                 generalize w63.drew=w64 at HO_5 HO_6 HO_248004 BK247 HB hx255_0 hHeld ⊢
                 refine pure_ (i:=0) (N:=some 62) (v:=?_) (a':=?_) #[true,false,false,false,false,false,false,false,false,false] rfl rfl (any_of HT_.out (by kernel_rfl)) (fun _ _ _ h=>h) (Or.inl ⟨by rfl,?_⟩) ?_ ?_
                 rotate_left
                 ·intro w'
                  go_simp
                  with_reducible rfl
                 rotate_left
                 ·simp only [Act.put,List.setIfInBounds_toArray,List.set_cons_zero,List.set_cons_succ,i64_w,i32_w]
                  rfl
                 refine pure_ (i:=2) (N:=some 64) (v:=?_) (a':=?_) #[true,false,true,false,false,false,false,false,false,false] rfl rfl (any_of HT_.out (by kernel_rfl)) (fun _ _ _ h=>h) (Or.inl ⟨by rfl,?_⟩) ?_ ?_
                 rotate_left
                 ·intro w'
                  go_simp
                  with_reducible rfl
                 rotate_left
                 ·simp only [Act.put,List.setIfInBounds_toArray,List.set_cons_zero,List.set_cons_succ,i64_w,i32_w]
                  rfl
                 refine pure_ (i:=3) (N:=some 65) (v:=?_) (a':=?_) #[true,false,true,true,false,false,false,false,false,false] rfl rfl (any_of HT_.out (by kernel_rfl)) (fun _ _ _ h=>h) (Or.inl ⟨by rfl,?_⟩) ?_ ?_
                 rotate_left
                 ·intro w'
                  go_simp
                  with_reducible rfl
                 rotate_left
                 ·simp only [Act.put,List.setIfInBounds_toArray,List.set_cons_zero,List.set_cons_succ,i64_w,i32_w]
                  rfl
                 refine pure_ (i:=4) (N:=some 66) (v:=?_) (a':=?_) #[true,false,true,true,true,false,false,false,false,false] rfl rfl (any_of HT_.out (by kernel_rfl)) (fun _ _ _ h=>h) (Or.inl ⟨by rfl,?_⟩) ?_ ?_
                 rotate_left
                 ·intro w'
                  go_simp
                  with_reducible rfl
                 rotate_left
                 ·simp only [Act.put,List.setIfInBounds_toArray,List.set_cons_zero,List.set_cons_succ,i64_w,i32_w]
                  rfl
                 refine take_ (i:=1) (N:=some 63) (v:=?_) (a':=?_) #[true,true,true,true,true,false,false,false,false,false] rfl rfl (take_ofW HT_.out HW_.out (by kernel_rfl)) (fun _ _ _ h=>h) (Or.inl ⟨by rfl,?_⟩) hHeld ?_ ?_
                 rotate_left
                 ·rintro w' ⟨s0,s1,s2,s3,s4,s5⟩
                  go_simp
                  with_reducible rfl
                 rotate_left
                 ·simp only [Act.put,List.setIfInBounds_toArray,List.set_cons_zero,List.set_cons_succ,i64_w,i32_w]
                  rfl
                 refine take_ (i:=5) (N:=some 67) (v:=?_) (a':=?_) #[true,true,true,true,true,true,false,false,false,false] rfl rfl (take_ofW HT_.out HW_.out (by kernel_rfl)) (fun _ _ _ h=>h) (Or.inl ⟨by rfl,?_⟩) hHeld ?_ ?_
                 rotate_left
                 ·rintro w' ⟨s0,s1,s2,s3,s4,s5⟩
                  go_simp
                  with_reducible rfl
                 rotate_left
                 ·simp only [Act.put,List.setIfInBounds_toArray,List.set_cons_zero,List.set_cons_succ,i64_w,i32_w]
                  rfl
                 refine one_ (i:=6) (N:=some 68) #[true,true,true,true,true,true,true,false,false,false] rfl rfl (one_of HT_.out (by kernel_rfl)) (by decide) (fun K hK=>?_)
                 refine value_ (w1:=?_) (v:=?_) (by rfl) rfl ?_ ?_
                 rotate_left 2
                 ·go_simp
                  constructor
                  ·rfl
                  ·rfl
                 refine hK.out _ _ ⟨(blk_cell (blk_alloc BK247.out _) 0).trans rfl,(blk_cell (blk_alloc BK247.out _) 1).trans rfl,(blk_cell (blk_alloc BK247.out _) 2).trans rfl,(blk_cell (blk_alloc BK247.out _) 3).trans rfl,(blk_cell (blk_alloc BK247.out _) 4).trans rfl,(World.cell?_alloc_lt _ _ _ (World.block_lt_of_cell? _ _ (hHeld.2.2.2.2.2))).trans (hHeld.2.2.2.2.2)⟩ (fun hHeld=>?_)
                 clear hK K
                 refine norm_ (a':=?_) ?_ ?_
                 rotate_left
                 ·show Act.put _ (some 68) _=_
                  simp only [Act.put,List.setIfInBounds_toArray,List.set_cons_zero,List.set_cons_succ,i64_w,i32_w]
                  rfl
                 refine last_ (i:=7) (N:=some 69) #[true,true,true,true,true,true,true,true,false,false] rfl rfl (one_of HT_.out (by kernel_rfl)) (by decide) (fun K hK=>?_)
                 refine Kd.R_append_step Kd.string (w0:=w) w.heap.size (by rfl) (.tmp 63) (.tmp 68) 33 9 (.string ⟨#[]⟩) 16 rfl Tryd.underlying33 info9 rfl (by decide) (by omega) (.slice Ao62 x248004_2.length co62) x248004_2 (rdOf ByteArray.empty x5_2 x7_2) [.string (rdOf ByteArray.empty x5_2 x7_2)] (fun k_=>some k_≠(.slice (some ad238) x5_2.length co8:Value).ownBlock) (fun _=>False) rfl rfl ?aP (fun _ hk=>hk.elim) ?aF ?aO ?aB ?aS ?aL ?_
                 (case aP=>exact rfl)
                 (case aB=>exact (by repeat (first|(with_reducible first|exact HB.out|apply below_alloc|apply pw_below_drewN|apply below_drew1|refine below_set ?_ GE247.out)|exact HB.out)))
                 (case aF=>exact (fun k_ hk=>Kd.fresh' (Kd.R_lt (by (with_reducible repeat (first|apply Kd.R_alloc|apply Kd.R_drewN|apply Kd.R_drew));exact HO_5.out)) k_ hk))
                 (case aO=>exact (by (with_reducible repeat (first|apply Kd.R_alloc|apply Kd.R_drewN|apply Kd.R_drew));exact HO_248004.out))
                 (case aS=>exact (below_size (by repeat (first|(with_reducible first|exact HB.out|apply below_alloc|apply pw_below_drewN|apply below_drew1|refine below_set ?_ GE247.out)|exact HB.out))))
                 (case aL=>have:=LMc27.out;omega)
                 intro v257 w65 ho hb hg hat
                 rw [← Ny256.out] at ho
                 have n0_:=Aside0.mk (Kd.R_after (ok:=(fun _=>True)) (by (with_reducible repeat (first|apply Kd.R_alloc|apply Kd.R_drewN|apply Kd.R_drew));exact Kd.R_mono HO_5.out (fun _ hk=>⟨trivial,hk⟩)) hg hat)
                 have n1_:=Aside0.mk (Kd.S_after (ok:=(fun k_=>some k_≠(.slice (some ad238) x5_2.length co8:Value).ownBlock∧k_≠gb247)) (by (with_reducible repeat (first|apply Kd.S_alloc|apply Kd.S_drewN|apply Kd.S_drew));exact Kd.S_mono HO_6.out (fun _ hk=>⟨⟨hk.1,hk.2.2⟩,hk.2.1⟩)) hg hat)
                 have n2_:=Aside0.mk (blk_grown (g:=gb247) (o:=.cells #[.int .i64 t239,.int .i64 t240,.int .i64 t241,.int .i64 t242,.slice Ao62 x248004_2.length co62] 41 (0,0)) (by (with_reducible repeat (first|refine blk_drewN ?_ _|refine blk_drew ?_|refine blk_alloc ?_ _));exact BK247.out) hg (Kd.R_ne HO_248004.out BK247.out (by decide)))
                 have n3_:=Aside0.mk (hb)
                 have n4_:=Aside0.mk (ho)
                 clear HO_5
                 clear HO_6
                 clear BK247
                 clear HB
                 clear HO_248004
                 have HO_5:=n0_
                 have HO_6:=n1_
                 have BK247:=n2_
                 have HB:=n3_
                 have HO258:=n4_
                 clear n0_ n1_ n2_ n3_ n4_
                 clear ho hb hg hat
                 obtain ⟨Ao66,co66,eo66⟩:=Kd.R_slice HO258.out
                 (first|subst eo66|(injection eo66 with f1_ f2_ f3_;have f4_:=f1_.symm;have f5_:=f3_.symm;clear f1_ f2_ f3_;subst f4_;subst f5_))
                 refine hK.out _ _ ?_
                 clear hK K
                 refine norm_ (a':=?_) ?_ ?_
                 rotate_left
                 ·show Act.put _ (some 69) _=_
                  simp only [Act.put,List.setIfInBounds_toArray,List.set_cons_zero,List.set_cons_succ,i64_w,i32_w]
                  rfl
                 refine pure_ (i:=8) (N:=some 70) (v:=?_) (a':=?_) #[true,true,true,true,true,true,true,true,true,false] rfl rfl (any_of HT_.out (by kernel_rfl)) (fun _ _ _ h=>h) (Or.inl ⟨by rfl,?_⟩) ?_ ?_
                 rotate_left
                 ·intro w'
                  go_simp
                  with_reducible rfl
                 rotate_left
                 ·simp only [Act.put,List.setIfInBounds_toArray,List.set_cons_zero,List.set_cons_succ,i64_w,i32_w]
                  rfl
                 refine last_ (i:=9) (N:=none) #[true,true,true,true,true,true,true,true,true,true] rfl rfl (one_of HT_.out (by kernel_rfl)) (by decide) (fun K hK=>?_)
                 have hs67:w65.cell? ⟨gb247,4,none⟩=some (.slice Ao62 x248004_2.length co62):=(blk_cell BK247.out 4).trans rfl
                 have hfs67:=blk_frozen BK247.out 4
                 refine skip_ (w1:=?_) (by rfl) rfl ?_ ?_
                 rotate_left
                 ·go_simp
                  rfl
                 refine hK.out _ _ ?_
                 clear hK K
                 refine done_ (done_of HT_.out (by kernel_rfl)) ?_
                 try go_wp2
                 have n0_:Aside0 (Kd.R Kd.string 9 (w65.setCell ⟨gb247,4,none⟩ (.slice Ao66 y256.length co66)) w.heap.size (fun k_=>some k_≠(.slice Ao66 y256.length co66:Value).ownBlock) (.slice (some ad238) x5_2.length co8) x5_2):=⟨by (with_reducible repeat (first|apply Kd.R_alloc|apply Kd.R_drewN|apply Kd.R_drew));exact Kd.R_mono (Kd.R_far (p:=⟨gb247,4,none⟩) (Kd.R_types HO_5.out BK247.out (by decide)) (fun _ hk=>hk.2) (.slice Ao66 y256.length co66)) (fun _ hk=>hk.1.2)⟩
                 have n1_:Aside0 (Kd.S k41 41 (w65.setCell ⟨gb247,4,none⟩ (.slice Ao66 y256.length co66)) w.heap.size (fun k_=>some k_≠(.slice (some ad238) x5_2.length co8:Value).ownBlock∧some k_≠(.slice Ao66 y256.length co66:Value).ownBlock∧k_≠gb247) u6 x6_1):=⟨by (with_reducible repeat (first|apply Kd.S_alloc|apply Kd.S_drewN|apply Kd.S_drew));exact Kd.S_mono (Kd.S_far (p:=⟨gb247,4,none⟩) (Kd.S_mono HO_6.out (fun k_ hk=>(⟨hk,hk.1.2⟩:_∧k_≠gb247))) (fun _ hk=>hk.2) (.slice Ao66 y256.length co66)) (fun _ hk=>⟨hk.1.1.1,⟨hk.1.2,hk.1.1.2⟩⟩)⟩
                 have n2_:Aside0 (Kd.R Kd.string 9 (w65.setCell ⟨gb247,4,none⟩ (.slice Ao66 y256.length co66)) w.heap.size (fun k_=>some k_≠(.slice (some ad238) x5_2.length co8:Value).ownBlock) (.slice Ao66 y256.length co66) y256):=⟨by (with_reducible repeat (first|apply Kd.R_alloc|apply Kd.R_drewN|apply Kd.R_drew));exact Kd.R_mono (Kd.R_far (p:=⟨gb247,4,none⟩) (Kd.R_types HO258.out BK247.out (by decide)) (fun _ hk=>hk.2) (.slice Ao66 y256.length co66)) (fun _ hk=>hk.1)⟩
                 have n3_:Aside0 ((w65.setCell ⟨gb247,4,none⟩ (.slice Ao66 y256.length co66)).heap[gb247]?=some (.cells #[.int .i64 t239,.int .i64 t240,.int .i64 t241,.int .i64 t242,.slice Ao66 y256.length co66] 41 (0,0))):=⟨by (with_reducible repeat (first|refine blk_drewN ?_ _|refine blk_drew ?_|refine blk_alloc ?_ _));refine blk_put (cs:=#[.int .i64 t239,.int .i64 t240,.int .i64 t241,.int .i64 t242,.slice Ao62 x248004_2.length co62]) ?_ 4 _ rfl;(with_reducible repeat (first|refine blk_drewN ?_ _|refine blk_drew ?_|refine blk_alloc ?_ _));exact BK247.out⟩
                 have n4_:Aside0 (Below w.heap.size w (w65.setCell ⟨gb247,4,none⟩ (.slice Ao66 y256.length co66))):=⟨by repeat (first|(with_reducible first|exact HB.out|apply below_alloc|apply pw_below_drewN|apply below_drew1|refine below_set ?_ GE247.out)|exact HB.out)⟩
                 (try clear HO_5)
                 (try clear HO_6)
                 (try clear HO258)
                 (try clear BK247)
                 (try clear HB)
                 generalize (w65.setCell ⟨gb247,4,none⟩ (.slice Ao66 y256.length co66))=w68 at n0_ n1_ n2_ n3_ n4_ ⊢
                 have HO_5:=n0_
                 have HO_6:=n1_
                 have HO258:=n2_
                 have BK247:=n3_
                 have HB:=n4_
                 clear n0_ n1_ n2_ n3_ n4_
                 have n0_:=Aside0.mk (Kd.R_drew HO_5.out)
                 have n1_:=Aside0.mk (Kd.S_drew HO_6.out)
                 have n2_:=Aside0.mk (Kd.R_drew HO258.out)
                 have n3_:=Aside0.mk (blk_drew BK247.out)
                 have n4_:=Aside0.mk (below_drew1 HB.out)
                 clear HO_5
                 clear HO_6
                 clear HO258
                 clear BK247
                 clear HB
                 have HO_5:=n0_
                 have HO_6:=n1_
                 have HO258:=n2_
                 have BK247:=n3_
                 have HB:=n4_
                 clear n0_ n1_ n2_ n3_ n4_
                 refine start_ (n:=12) (S:=fun w'=>True) (ds:=[]) #[false,false,false,false,false,false,false,false,false,false,false,false] (by kernel_rfl) rfl rfl trivial (fun hHeld=>?_);refine with_tabW r06_Parse.tab17 r06_Parse.bits17 (fun HT_ HW_=>?_)
                 generalize w68.drew=w69 at HO_5 HO_6 HO258 BK247 HB hHeld ⊢
                 refine pure_ (i:=0) (N:=some 73) (v:=?_) (a':=?_) #[true,false,false,false,false,false,false,false,false,false,false,false] rfl rfl (any_of HT_.out (by kernel_rfl)) (fun _ _ _ h=>h) (Or.inl ⟨by rfl,?_⟩) ?_ ?_
                 rotate_left
                 ·intro w'
                  go_simp
                  with_reducible rfl
                 rotate_left
                 ·simp only [Act.put,List.setIfInBounds_toArray,List.set_cons_zero,List.set_cons_succ,i64_w,i32_w]
                  rfl
                 refine pure_ (i:=1) (N:=some 74) (v:=?_) (a':=?_) #[true,true,false,false,false,false,false,false,false,false,false,false] rfl rfl (any_of HT_.out (by kernel_rfl)) (fun _ _ _ h=>h) (Or.inl ⟨by rfl,?_⟩) ?_ ?_
                 rotate_left
                 ·intro w'
                  go_simp
                  with_reducible rfl
                 rotate_left
                 ·simp only [Act.put,List.setIfInBounds_toArray,List.set_cons_zero,List.set_cons_succ,i64_w,i32_w]
                  rfl
                 refine pure_ (i:=2) (N:=some 75) (v:=?_) (a':=?_) #[true,true,true,false,false,false,false,false,false,false,false,false] rfl rfl (any_of HT_.out (by kernel_rfl)) (fun _ _ _ h=>h) (Or.inl ⟨by rfl,?_⟩) ?_ ?_
                 rotate_left
                 ·intro w'
                  go_simp
                  with_reducible rfl
                 rotate_left
                 ·simp only [Act.put,List.setIfInBounds_toArray,List.set_cons_zero,List.set_cons_succ,i64_w,i32_w]
                  rfl
                 refine pure_ (i:=3) (N:=some 76) (v:=?_) (a':=?_) #[true,true,true,true,false,false,false,false,false,false,false,false] rfl rfl (any_of HT_.out (by kernel_rfl)) (fun _ _ _ h=>h) (Or.inl ⟨by rfl,?_⟩) ?_ ?_
                 rotate_left
                 ·intro w'
                  go_simp
                  with_reducible rfl
                 rotate_left
                 ·simp only [Act.put,List.setIfInBounds_toArray,List.set_cons_zero,List.set_cons_succ,i64_w,i32_w]
                  rfl
                 refine pure_ (i:=4) (N:=some 77) (v:=?_) (a':=?_) #[true,true,true,true,true,false,false,false,false,false,false,false] rfl rfl (any_of HT_.out (by kernel_rfl)) (fun _ _ _ h=>h) (Or.inl ⟨by rfl,?_⟩) ?_ ?_
                 rotate_left
                 ·intro w'
                  go_simp
                  with_reducible rfl
                 rotate_left
                 ·simp only [Act.put,List.setIfInBounds_toArray,List.set_cons_zero,List.set_cons_succ,i64_w,i32_w]
                  rfl
                 refine pure_ (i:=5) (N:=some 78) (v:=undef) (a':=?_) #[true,true,true,true,true,true,false,false,false,false,false,false] rfl rfl (any_of HT_.out (by kernel_rfl)) (fun _ _ _ h=>h) (Or.inr ⟨by rfl,rfl⟩) ?_ ?_
                 rotate_left
                 ·simp only [Act.put,List.setIfInBounds_toArray,List.set_cons_zero,List.set_cons_succ,i64_w,i32_w]
                  rfl
                 refine pure_ (i:=6) (N:=some 79) (v:=undef) (a':=?_) #[true,true,true,true,true,true,true,false,false,false,false,false] rfl rfl (any_of HT_.out (by kernel_rfl)) (fun _ _ _ h=>h) (Or.inr ⟨by rfl,rfl⟩) ?_ ?_
                 rotate_left
                 ·simp only [Act.put,List.setIfInBounds_toArray,List.set_cons_zero,List.set_cons_succ,i64_w,i32_w]
                  rfl
                 refine pure_ (i:=7) (N:=some 80) (v:=undef) (a':=?_) #[true,true,true,true,true,true,true,true,false,false,false,false] rfl rfl (any_of HT_.out (by kernel_rfl)) (fun _ _ _ h=>h) (Or.inr ⟨by rfl,rfl⟩) ?_ ?_
                 rotate_left
                 ·simp only [Act.put,List.setIfInBounds_toArray,List.set_cons_zero,List.set_cons_succ,i64_w,i32_w]
                  rfl
                 refine pure_ (i:=8) (N:=some 81) (v:=undef) (a':=?_) #[true,true,true,true,true,true,true,true,true,false,false,false] rfl rfl (any_of HT_.out (by kernel_rfl)) (fun _ _ _ h=>h) (Or.inr ⟨by rfl,rfl⟩) ?_ ?_
                 rotate_left
                 ·simp only [Act.put,List.setIfInBounds_toArray,List.set_cons_zero,List.set_cons_succ,i64_w,i32_w]
                  rfl
                 refine pure_ (i:=9) (N:=some 82) (v:=undef) (a':=?_) #[true,true,true,true,true,true,true,true,true,true,false,false] rfl rfl (any_of HT_.out (by kernel_rfl)) (fun _ _ _ h=>h) (Or.inr ⟨by rfl,rfl⟩) ?_ ?_
                 rotate_left
                 ·simp only [Act.put,List.setIfInBounds_toArray,List.set_cons_zero,List.set_cons_succ,i64_w,i32_w]
                  rfl
                 refine pure_ (i:=10) (N:=some 83) (v:=undef) (a':=?_) #[true,true,true,true,true,true,true,true,true,true,true,false] rfl rfl (any_of HT_.out (by kernel_rfl)) (fun _ _ _ h=>h) (Or.inr ⟨by rfl,rfl⟩) ?_ ?_
                 rotate_left
                 ·simp only [Act.put,List.setIfInBounds_toArray,List.set_cons_zero,List.set_cons_succ,i64_w,i32_w]
                  rfl
                 refine pure_ (i:=11) (N:=some 84) (v:=?_) (a':=?_) #[true,true,true,true,true,true,true,true,true,true,true,true] rfl rfl (any_of HT_.out (by kernel_rfl)) (fun _ _ _ h=>h) (Or.inl ⟨by rfl,?_⟩) ?_ ?_
                 rotate_left
                 ·intro w'
                  go_simp
                  with_reducible rfl
                 rotate_left
                 ·simp only [Act.put,List.setIfInBounds_toArray,List.set_cons_zero,List.set_cons_succ,i64_w,i32_w]
                  rfl
                 refine done_ (done_of HT_.out (by kernel_rfl)) ?_
                 try go_wp2
                 (try simp only [← hl5_2])
                 go_roundg kj12
                 case measure=>have:=HK1.out;have:=HK2.out;have:=HJ12.out;omega
                 case rel=>exact ⟨(x5_2),(wrap64 (x7_2+1)),(y256),(.slice Ao66 y256.length co66),(by first|rfl|(simp;done)|(simp [*];done)),H',⟨by have:=HK1.out;have:=HK2.out;have:=HJ12.out;omega⟩,⟨by (try simp only [hl5_2]);(with_reducible repeat (first|apply Kd.R_alloc|apply Kd.R_drewN|apply Kd.R_drew));exact HO_5.out⟩,⟨by (try simp only [hl5_2]);(with_reducible repeat (first|apply Kd.S_alloc|apply Kd.S_drewN|apply Kd.S_drew));exact HO_6.out⟩,⟨by (try simp only [hl5_2]);(with_reducible repeat (first|apply Kd.R_alloc|apply Kd.R_drewN|apply Kd.R_drew));exact HO258.out⟩,⟨by (try simp only [hl5_2]);(with_reducible repeat (first|refine blk_drewN ?_ _|refine blk_drew ?_|refine blk_alloc ?_ _));exact BK247.out⟩,⟨by repeat (first|(with_reducible first|exact HB.out|apply below_alloc|apply pw_below_drewN|apply below_drew1|refine below_set ?_ GE247.out)|exact HB.out)⟩⟩
               ·rw [if_neg c27] at H
                exact absurd H (by simp)
              ·replace c26:=Bool.eq_false_iff.mpr c26
               subst c26
               have H1:(some (([]:List (S41)),wrap64 (x7_2+1),3))=some (r1,r2,r3):=by rw [if_neg (show ¬ (false=true) by decide)] at H;exact H
               clear H
               have H:=H1
               clear H1
               simp only [Option.some.injEq,Prod.mk.injEq] at H
               obtain ⟨rfl,rfl,rfl⟩:=H
               try go_wp2
               have n0_:=Aside0.mk (Kd.R_drew HO_5.out)
               have n1_:=Aside0.mk (Kd.S_drew HO_6.out)
               have n2_:=Aside0.mk (Kd.R_drew HO_248004.out)
               have n3_:=Aside0.mk (blk_drew BK247.out)
               have n4_:=Aside0.mk (below_drew1 HB.out)
               clear HO_5
               clear HO_6
               clear HO_248004
               clear BK247
               clear HB
               have HO_5:=n0_
               have HO_6:=n1_
               have HO_248004:=n2_
               have BK247:=n3_
               have HB:=n4_
               clear n0_ n1_ n2_ n3_ n4_
               have p253:0≤(x7_2:Int):=of_decide_eq_true (by first|(with_reducible assumption)|assumption)
               have q253:x7_2<(x5_2.length:Int):=of_decide_eq_true (by first|(with_reducible assumption)|assumption)
               obtain ⟨ad253,e253,hx253_0⟩:=Kd.at_string (Kd.R_reads' HO_5.out).2.2 x7_2 p253 q253
               obtain rfl:ad238=ad253:=(by injection e253)
               replace p253:=eq_true p253
               replace q253:=eq_true q253
               obtain ⟨Ao71,co71,eo71⟩:=Kd.R_slice HO_248004.out
               (first|subst eo71|(injection eo71 with f1_ f2_ f3_;have f4_:=f1_.symm;have f5_:=f3_.symm;clear f1_ f2_ f3_;subst f4_;subst f5_))
               refine start_ (n:=7) (S:=fun w'=>w'.cell? ⟨gb247,0,none⟩=some (.int .i64 t239)∧w'.cell? ⟨gb247,1,none⟩=some (.int .i64 t240)∧w'.cell? ⟨gb247,2,none⟩=some (.int .i64 t241)∧w'.cell? ⟨gb247,3,none⟩=some (.int .i64 t242)∧w'.cell? ⟨gb247,4,none⟩=some (.slice Ao71 x248004_2.length co71)∧w'.cell? (ad238.add (x7_2).toNat)=some (.string (rdOf ByteArray.empty x5_2 x7_2))) (ds:=[]) #[false,false,false,false,false,false,false] (by kernel_rfl) rfl rfl ⟨(blk_cell BK247.out 0).trans rfl,(blk_cell BK247.out 1).trans rfl,(blk_cell BK247.out 2).trans rfl,(blk_cell BK247.out 3).trans rfl,(blk_cell BK247.out 4).trans rfl,hx253_0⟩ (fun hHeld=>?_)
               generalize wc.drew=w70 at HO_5 HO_6 HO_248004 BK247 HB hx253_0 hHeld ⊢
               refine pure_ (i:=1) (N:=some 53) (v:=?_) (a':=?_) #[false,true,false,false,false,false,false] rfl rfl (by kernel_rfl) (fun _ _ _ h=>h) (Or.inl ⟨by rfl,?_⟩) ?_ ?_
               rotate_left
               ·intro w'
                go_simp
                with_reducible rfl
               rotate_left
               ·simp only [Act.put,List.setIfInBounds_toArray,List.set_cons_zero,List.set_cons_succ,i64_w,i32_w]
                rfl
               refine pure_ (i:=2) (N:=some 54) (v:=?_) (a':=?_) #[false,true,true,false,false,false,false] rfl rfl (by kernel_rfl) (fun _ _ _ h=>h) (Or.inl ⟨by rfl,?_⟩) ?_ ?_
               rotate_left
               ·intro w'
                go_simp
                with_reducible rfl
               rotate_left
               ·simp only [Act.put,List.setIfInBounds_toArray,List.set_cons_zero,List.set_cons_succ,i64_w,i32_w]
                rfl
               refine pure_ (i:=3) (N:=some 55) (v:=?_) (a':=?_) #[false,true,true,true,false,false,false] rfl rfl (by kernel_rfl) (fun _ _ _ h=>h) (Or.inl ⟨by rfl,?_⟩) ?_ ?_
               rotate_left
               ·intro w'
                go_simp
                with_reducible rfl
               rotate_left
               ·simp only [Act.put,List.setIfInBounds_toArray,List.set_cons_zero,List.set_cons_succ,i64_w,i32_w]
                rfl
               refine take_ (i:=0) (N:=some 52) (v:=?_) (a':=?_) #[true,true,true,true,false,false,false] rfl rfl (by kernel_rfl) (fun _ _ _ h=>h) (Or.inl ⟨by rfl,?_⟩) hHeld ?_ ?_
               rotate_left
               ·rintro w' ⟨s0,s1,s2,s3,s4,s5⟩
                go_simp
                with_reducible rfl
               rotate_left
               ·simp only [Act.put,List.setIfInBounds_toArray,List.set_cons_zero,List.set_cons_succ,i64_w,i32_w]
                rfl
               refine take_ (i:=4) (N:=some 56) (v:=?_) (a':=?_) #[true,true,true,true,true,false,false] rfl rfl (by kernel_rfl) (fun _ _ _ h=>h) (Or.inl ⟨by rfl,?_⟩) hHeld ?_ ?_
               rotate_left
               ·rintro w' ⟨s0,s1,s2,s3,s4,s5⟩
                go_simp
                with_reducible rfl
               rotate_left
               ·simp only [Act.put,List.setIfInBounds_toArray,List.set_cons_zero,List.set_cons_succ,i64_w,i32_w]
                rfl
               refine one_ (i:=5) (N:=some 57) #[true,true,true,true,true,true,false] rfl rfl (by kernel_rfl) (by decide) (fun K hK=>?_)
               refine goes_ Tryd.func37 (by kernel_rfl) rfl #[.agg #[.int .i64 t239,.int .i64 t240,.int .i64 t241,.int .i64 t242,.slice Ao71 x248004_2.length co71],.string (rdOf ByteArray.empty x5_2 x7_2)] (by rfl) rfl rfl (by (try simp only [List.map_toArray,List.map_cons,List.map_nil]);first|done|rfl|(simp only [List.length_drop,List.length_take];rfl)) ?_
               with_reducible refine (r06_fits.calls kj12 t239 t240 t241 t242 _ _ x248004_2 (rdOf ByteArray.empty x5_2 x7_2) false _ ?side1 ?side2 A25.out).mono ?_
               (case side1=>repeat (first|exact (Kd.R_reads' HO_248004.out).2.2|(with_reducible refine Kd.C_alloc ?_ _)|(with_reducible refine Kd.C_drewN ?_ _)|(with_reducible refine Kd.C_drew ?_)))
               (case side2=>exact (Kd.R_reads' HO_248004.out).2.1)
               rintro e w72 ⟨rfl,hb⟩
               have HS5_:=(hb.cell (World.block_lt_of_cell? _ _ (hHeld.2.2.2.2.2))).trans (hHeld.2.2.2.2.2)
               refine ⟨_,rfl,?_⟩
               have n0_:=Aside0.mk (Kd.R_below (by (with_reducible repeat (first|apply Kd.R_alloc|apply Kd.R_drewN|apply Kd.R_drew));exact HO_5.out) hb)
               have n1_:=Aside0.mk (Kd.S_below (by (with_reducible repeat (first|apply Kd.S_alloc|apply Kd.S_drewN|apply Kd.S_drew));exact HO_6.out) hb)
               have n2_:=Aside0.mk (Kd.R_below (by (with_reducible repeat (first|apply Kd.R_alloc|apply Kd.R_drewN|apply Kd.R_drew));exact HO_248004.out) hb)
               have n3_:=Aside0.mk (blk_below (g:=gb247) (o:=.cells #[.int .i64 t239,.int .i64 t240,.int .i64 t241,.int .i64 t242,.slice Ao71 x248004_2.length co71] 41 (0,0)) (by (with_reducible repeat (first|refine blk_drewN ?_ _|refine blk_drew ?_|refine blk_alloc ?_ _));exact BK247.out) hb)
               have n4_:=Aside0.mk (below_step (by repeat (first|(with_reducible first|exact HB.out|apply below_alloc|apply pw_below_drewN|apply below_drew1|refine below_set ?_ GE247.out)|exact HB.out)) hb)
               clear HO_5
               clear HO_6
               clear HO_248004
               clear BK247
               clear HB
               have HO_5:=n0_
               have HO_6:=n1_
               have HO_248004:=n2_
               have BK247:=n3_
               have HB:=n4_
               clear n0_ n1_ n2_ n3_ n4_
               (try clear hb)
               (try clear hb2)
               (try clear hk)
               (try clear hi)
               refine hK.out _ _ ⟨(blk_cell BK247.out 0).trans rfl,(blk_cell BK247.out 1).trans rfl,(blk_cell BK247.out 2).trans rfl,(blk_cell BK247.out 3).trans rfl,(blk_cell BK247.out 4).trans rfl,HS5_⟩ (fun hHeld=>?_)
               clear hK K
               refine norm_ (a':=?_) ?_ ?_
               rotate_left
               ·show Act.put _ (some 57) _=_
                simp only [Act.put,List.setIfInBounds_toArray,List.set_cons_zero,List.set_cons_succ,i64_w,i32_w]
                rfl
               refine pure_ (i:=6) (N:=some 10) (v:=?_) (a':=?_) #[true,true,true,true,true,true,true] rfl rfl (by kernel_rfl) (fun _ _ _ h=>h) (Or.inl ⟨by rfl,?_⟩) ?_ ?_
               rotate_left
               ·intro w'
                go_simp
                with_reducible rfl
               rotate_left
               ·simp only [Act.put,List.setIfInBounds_toArray,List.set_cons_zero,List.set_cons_succ,i64_w,i32_w]
                rfl
               refine done_ (by kernel_rfl) ?_
               try go_wp2
               go_ret3
               exact ⟨_,by first|rfl|(simp [errW_none,errW_some]<;>rfl)|(simp [*,errW_none,errW_some]<;>rfl),by first|exact Kd.S_nil _ _ _ _ _|exact Kd.N_nil _ _ _ _ _|exact Kd.V_nil _ _ _ _ _|exact Kd.Q_nil _ _ _ _ _|exact Kd.R_nil _ _ _ _ _,by repeat (first|(with_reducible first|exact HB.out|apply below_alloc|apply pw_below_drewN|apply below_drew1|refine below_set ?_ GE247.out)|exact HB.out)⟩
             ·rw [if_neg c24] at H
              exact absurd H (by simp)
            ·rw [if_neg c23] at H
             exact absurd H (by simp)
          ·replace c21:=Bool.eq_false_iff.mpr c21
           subst c21
           have H1:(if x6_1.length<2513169434916 then (r06_Parse.l0 kj12 x5_2 (x6_1++[(⟨t239,t240,t241,t242,x248004_2⟩:S41)]) x7_2) else (none))=some (r1,r2,r3):=by rw [if_neg (show ¬ (false=true) by decide)] at H;exact H
           clear H
           have H:=H1
           clear H1
           by_cases c73:x6_1.length<2513169434916
           ·rw [if_pos c73] at H
            have LMc73:=Aside0.mk c73
            clear c73
            obtain ⟨y250,hy250⟩:∃ y_:List (S41),y_=(x6_1++[(⟨t239,t240,t241,t242,x248004_2⟩:S41)]):=⟨_,rfl⟩
            replace H:(r06_Parse.l0 kj12 x5_2 y250 x7_2)=some (r1,r2,r3):=by first|(rw [hy250];with_reducible exact H)|(have H2_:=(Option.bind_some _ _).symm.trans H;rw [hy250];with_reducible exact H2_)|(have H2_:=(Option.bind_some _ _).symm.trans H;with_reducible exact H2_)|with_reducible exact H|(rw [hy250];exact H)|exact H
            have Ny250:=Aside0.mk hy250
            clear hy250
            have H':=Aside0.mk H
            clear H
            have hcz74_0:wc.cell? ⟨gb247,0,none⟩=some (.int .i64 t239):=(blk_cell BK247.out 0).trans rfl
            have hcz74_1:wc.cell? ⟨gb247,1,none⟩=some (.int .i64 t240):=(blk_cell BK247.out 1).trans rfl
            have hcz74_2:wc.cell? ⟨gb247,2,none⟩=some (.int .i64 t241):=(blk_cell BK247.out 2).trans rfl
            have hcz74_3:wc.cell? ⟨gb247,3,none⟩=some (.int .i64 t242):=(blk_cell BK247.out 3).trans rfl
            have hcz74_4:wc.cell? ⟨gb247,4,none⟩=some (u248004):=(blk_cell BK247.out 4).trans rfl
            have hfz74_0:=blk_frozen BK247.out 0
            have hfz74_1:=blk_frozen BK247.out 1
            have hfz74_2:=blk_frozen BK247.out 2
            have hfz74_3:=blk_frozen BK247.out 3
            have hfz74_4:=blk_frozen BK247.out 4
            obtain ⟨Ao76,co76,eo76⟩:=Kd.R_slice HO_248004.out
            subst eo76
            go_wp2_with (first|((with_reducible refine gate_builtin (b:=.append) (xs:=#[.tmp 108,.tmp 110]) rfl ?_);at_builtin;refine Kd.S_append k41 (w0:=w) w.heap.size rfl (.tmp 108) (.tmp 110) 22 41 (.agg #[(.int .i64 0),(.int .i64 0),(.int .i64 0),(.int .i64 0),(.slice none 0 0)]) 56 rfl Tryd.underlying22 info41 rfl (by decide) (by omega) u6 x6_1 (⟨t239,t240,t241,t242,x248004_2⟩:S41) [.int .i64 t239,.int .i64 t240,.int .i64 t241,.int .i64 t242,.slice Ao76 x248004_2.length co76] (fun k_=>some k_≠(.slice (some ad238) x5_2.length co8:Value).ownBlock∧k_≠gb247) (fun k_=>some k_=(.slice Ao76 x248004_2.length co76:Value).ownBlock) rfl rfl ?aP (fun k_ hk_=>((Kd.R_mono (ok':=fun k_=>((fun k_=>some k_≠(.slice (some ad238) x5_2.length co8:Value).ownBlock∧k_≠gb247)) k_∧some k_≠(u6:Value).ownBlock) (Kd.R_types (Kd.R_apart' (HO_248004.out) (Kd.S_typed HO_6.out) (by decide)) BK247.out (by decide)) (fun k_ hk=>⟨⟨hk.1.1,hk.2⟩,hk.1.2⟩))).1 k_ hk_.symm) ?aF ?aO ?aB ?aS ?aL ?_;(case aP=>exact k41_mkM _ _ _ (⟨t239,t240,t241,t242,x248004_2⟩:S41) (Kd.R_mono (Kd.R_tight rfl (Kd.R_mono (ok':=fun k_=>((fun k_=>some k_≠(.slice (some ad238) x5_2.length co8:Value).ownBlock∧k_≠gb247)) k_∧some k_≠(u6:Value).ownBlock) (Kd.R_types (Kd.R_apart' (HO_248004.out) (Kd.S_typed HO_6.out) (by decide)) BK247.out (by decide)) (fun k_ hk=>⟨⟨hk.1.1,hk.2⟩,hk.1.2⟩))) (fun _ h_=>h_)));(case aB=>exact (by repeat (first|(with_reducible first|exact HB.out|apply below_alloc|apply pw_below_drewN|apply below_drew1|refine below_set ?_ GE247.out)|exact HB.out)));(case aF=>exact (fun k_ hk=>⟨Kd.fresh' (Kd.R_lt (by (with_reducible repeat (first|apply Kd.R_alloc|apply Kd.R_drewN|apply Kd.R_drew));exact HO_5.out)) k_ hk,Kd.freshB (g:=gb247) (o:=.cells #[.int .i64 t239,.int .i64 t240,.int .i64 t241,.int .i64 t242,.slice Ao76 x248004_2.length co76] 41 (0,0)) (by (with_reducible repeat (first|refine blk_drewN ?_ _|refine blk_drew ?_|refine blk_alloc ?_ _));exact BK247.out) k_ hk⟩));(case aO=>exact (by (with_reducible repeat (first|apply Kd.S_alloc|apply Kd.S_drewN|apply Kd.S_drew));exact Kd.S_mono HO_6.out (fun k_ hk=>⟨⟨hk.1,hk.2.2⟩,fun e_=>hk.2.1 e_⟩)));(case aS=>exact (below_size (by repeat (first|(with_reducible first|exact HB.out|apply below_alloc|apply pw_below_drewN|apply below_drew1|refine below_set ?_ GE247.out)|exact HB.out))));(case aL=>have:=LMc73.out;omega);intro v251 w75 ho hb hg hat;rw [← Ny250.out] at ho;have n0_:=Aside0.mk (Kd.R_over' (by (with_reducible repeat (first|apply Kd.R_alloc|apply Kd.R_drewN|apply Kd.R_drew));exact HO_5.out) (Kd.S_typed (by (with_reducible repeat (first|apply Kd.S_alloc|apply Kd.S_drewN|apply Kd.S_drew));exact HO_6.out)) (by decide) hg);have n1_:=Aside0.mk (blk_grown (g:=gb247) (o:=.cells #[.int .i64 t239,.int .i64 t240,.int .i64 t241,.int .i64 t242,.slice Ao76 x248004_2.length co76] 41 (0,0)) (by (with_reducible repeat (first|refine blk_drewN ?_ _|refine blk_drew ?_|refine blk_alloc ?_ _));exact BK247.out) hg (Kd.S_away HO_6.out (fun _ hk=>hk.2.2)));have n2_:=Aside0.mk (hb);have n3_:=Aside0.mk (ho);clear HO_5;clear BK247;clear HB;clear HO_6;clear HO_248004;have HO_5:=n0_;have BK247:=n1_;have HB:=n2_;have HO252:=n3_;clear n0_ n1_ n2_ n3_;clear ho hb hg hat))
            (try simp only [← hl5_2])
            go_roundg kj12
            case measure=>have:=HK1.out;have:=HK2.out;have:=HJ12.out;omega
            case rel=>exact ⟨(x5_2),(y250),(x7_2),(by first|rfl|(simp;done)|(simp [*];done)),H',⟨by have:=HK1.out;have:=HK2.out;have:=HJ12.out;omega⟩,⟨by (try simp only [hl5_2]);(with_reducible repeat (first|apply Kd.R_alloc|apply Kd.R_drewN|apply Kd.R_drew));exact Kd.R_mono HO_5.out (fun _ hk=>trivial)⟩,⟨by (try simp only [hl5_2]);(with_reducible repeat (first|apply Kd.S_alloc|apply Kd.S_drewN|apply Kd.S_drew));exact Kd.S_mono HO252.out (fun _ hk=>hk.1)⟩,⟨by repeat (first|(with_reducible first|exact HB.out|apply below_alloc|apply pw_below_drewN|apply below_drew1|refine below_set ?_ GE247.out)|exact HB.out)⟩⟩
           ·rw [if_neg c73] at H
            exact absurd H (by simp)
     ·replace c7:=Bool.eq_false_iff.mpr c7
      subst c7
      have H1:(some (([]:List (S41)),wrap64 (x7_1+1),3))=some (r1,r2,r3):=by rw [if_neg (show ¬ (false=true) by decide)] at H;exact H
      clear H
      have H:=H1
      clear H1
      simp only [Option.some.injEq,Prod.mk.injEq] at H
      obtain ⟨rfl,rfl,rfl⟩:=H
      obtain ⟨Ao77,co77,eo77⟩:=Kd.R_slice HO_5.out
      subst eo77
      have p238:0≤(x7_1:Int):=of_decide_eq_true (by first|(with_reducible assumption)|assumption)
      have q238:x7_1<(x5_1.length:Int):=of_decide_eq_true (by first|(with_reducible assumption)|assumption)
      obtain ⟨ad238,e238,hx238_0⟩:=Kd.at_string (Kd.R_reads' HO_5.out).2.2 x7_1 p238 q238
      cases e238
      replace p238:=eq_true p238
      replace q238:=eq_true q238
      go_wp2_with (first|((with_reducible refine gate_callee (f:=35) rfl ?_);refine goesL_ (some 23) rfl rfl Tryd.func35 (by kernel_rfl) rfl #[.string (rdOf ByteArray.empty x5_1 x7_1)] rfl (by (try simp only [List.map_toArray,List.map_cons,List.map_nil]);first|done|rfl|(simp only [List.length_drop,List.length_take];rfl)) ?_;(with_reducible refine (r06_head.calls k1 (rdOf ByteArray.empty x5_1 x7_1) t239 t240 t241 t242 t243 false _ A6.out).mono ?_);rintro e w78 ⟨v244,rfl,ho0,hb⟩;refine ⟨_,rfl,?_⟩;have n0_:=Aside0.mk (Kd.R_elder' (by (with_reducible repeat (first|apply Kd.R_alloc|apply Kd.R_drewN|apply Kd.R_drew));exact HO_5.out) (Kd.R_base ho0) hb);have n1_:=Aside0.mk (Kd.S_elder' (by (with_reducible repeat (first|apply Kd.S_alloc|apply Kd.S_drewN|apply Kd.S_drew));exact HO_6.out) (Kd.R_base ho0) hb);have n2_:=Aside0.mk (Kd.R_lower (Kd.R_new' ho0 (Kd.R_lt (by (with_reducible repeat (first|apply Kd.R_alloc|apply Kd.R_drewN|apply Kd.R_drew));exact HO_5.out))) (below_size (by repeat (first|(with_reducible first|exact HB.out|apply below_alloc|apply pw_below_drewN|apply below_drew1)|exact HB.out))));have n3_:=Aside0.mk (below_step (by repeat (first|(with_reducible first|exact HB.out|apply below_alloc|apply pw_below_drewN|apply below_drew1)|exact HB.out)) hb);clear HO_5;clear HO_6;clear HB;have HO_5:=n0_;have HO_6:=n1_;have HO245:=n2_;have HB:=n3_;clear n0_ n1_ n2_ n3_;(try clear hb);(try clear hb2);(try clear hk);(try clear hi);(try clear ho0))|((with_reducible refine gate_dst (N:=8) rfl ?_);refine box_event ?hg (N:=8) ?hd (cs:=#[.int .i64 0,.int .i64 0,.int .i64 0,.int .i64 0,.slice none 0 0]) (t:=41) ?hr ?_;(case hd=>rfl);(case hg=>rfl);(case hr=>first|(go_simp;done)|(go_simp;rfl));intro gb247 hg w79 hbox hb;have n0_:=Aside0.mk (Kd.R_below (by (with_reducible repeat (first|apply Kd.R_alloc|apply Kd.R_drewN|apply Kd.R_drew));exact HO_5.out) hb);have n1_:=Aside0.mk (Kd.S_below (Kd.S_elderB (by (with_reducible repeat (first|apply Kd.S_alloc|apply Kd.S_drewN|apply Kd.S_drew));exact HO_6.out) gb247 (Nat.le_of_eq hg.symm)) hb);have n2_:=Aside0.mk (Kd.R_below (by (with_reducible repeat (first|apply Kd.R_alloc|apply Kd.R_drewN|apply Kd.R_drew));exact HO245.out) hb);have n3_:=Aside0.mk (below_step (by repeat (first|(with_reducible first|exact HB.out|apply below_alloc|apply pw_below_drewN|apply below_drew1)|exact HB.out)) hb);have n4_:=Aside0.mk (hbox);have n5_:=Aside0.mk ((by rw [hg];exact (below_size (by repeat (first|(with_reducible first|exact HB.out|apply below_alloc|apply pw_below_drewN|apply below_drew1)|exact HB.out))):w.heap.size≤gb247));have n6_:=Aside0.mk ((by rw [hg];exact (below_size (by repeat (first|(with_reducible first|exact HB.out|apply below_alloc|apply pw_below_drewN|apply below_drew1)|exact HB.out))):w.heap.size≤gb247));clear HO_5;clear HO_6;clear HO245;clear HB;have HO_5:=n0_;have HO_6:=n1_;have HO245:=n2_;have HB:=n3_;have BK247:=n4_;have GW247:=n5_;have GE247:=n6_;clear n0_ n1_ n2_ n3_ n4_ n5_ n6_;clear hb hbox hg;have hcz80_0:w79.cell? ⟨gb247,0,none⟩=some (.int .i64 0):=(blk_cell BK247.out 0).trans rfl;have hcz80_1:w79.cell? ⟨gb247,1,none⟩=some (.int .i64 0):=(blk_cell BK247.out 1).trans rfl;have hcz80_2:w79.cell? ⟨gb247,2,none⟩=some (.int .i64 0):=(blk_cell BK247.out 2).trans rfl;have hcz80_3:w79.cell? ⟨gb247,3,none⟩=some (.int .i64 0):=(blk_cell BK247.out 3).trans rfl;have hcz80_4:w79.cell? ⟨gb247,4,none⟩=some (.slice none 0 0):=(blk_cell BK247.out 4).trans rfl;have hfz80_0:=blk_frozen BK247.out 0;have hfz80_1:=blk_frozen BK247.out 1;have hfz80_2:=blk_frozen BK247.out 2;have hfz80_3:=blk_frozen BK247.out 3;have hfz80_4:=blk_frozen BK247.out 4;obtain ⟨Ao81,co81,eo81⟩:=Kd.R_slice HO245.out;subst eo81))
      go_ret3
      exact ⟨_,by first|rfl|(simp [errW_none,errW_some]<;>rfl)|(simp [*,errW_none,errW_some]<;>rfl),by first|exact Kd.S_nil _ _ _ _ _|exact Kd.N_nil _ _ _ _ _|exact Kd.V_nil _ _ _ _ _|exact Kd.Q_nil _ _ _ _ _|exact Kd.R_nil _ _ _ _ _,by repeat (first|(with_reducible first|exact HB.out|apply below_alloc|apply pw_below_drewN|apply below_drew1|refine below_set ?_ GE247.out)|exact HB.out)⟩
    ·rw [if_neg c5] at H
     exact absurd H (by simp)
   ·rw [if_neg c4] at H
    have c4b0:decide (x7_1<(x5_1.length:Int))=false:=decide_eq_false c4
    clear c4
    simp only [Option.some.injEq,Prod.mk.injEq] at H
    obtain ⟨rfl,rfl,rfl⟩:=H
    obtain ⟨Ao82,co82,eo82⟩:=Kd.R_slice HO_5.out
    subst eo82
    go_wp2
    go_ret3
    exact ⟨_,by first|rfl|(simp [errW_none,errW_some]<;>rfl)|(simp [*,errW_none,errW_some]<;>rfl),by (with_reducible repeat (first|apply Kd.S_alloc|apply Kd.S_drewN|apply Kd.S_drew));exact Kd.S_mono HO_6.out (fun _ hk=>trivial),by repeat (first|(with_reducible first|exact HB.out|apply below_alloc|apply pw_below_drewN|apply below_drew1)|exact HB.out)⟩

end Go.Proofs.YtamojbfmphainaaDoor.Pr
-- shrunk
