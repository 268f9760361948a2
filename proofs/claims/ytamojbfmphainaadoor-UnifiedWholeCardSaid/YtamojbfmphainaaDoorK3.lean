/-
Several plain texts in one.
-/
import Derived.Test.YtamojbfmphainaaDoorK0
import Derived.Test.YtamojbfmphainaaDoorK2
import Derived.Test.YtamojbfmphainaaDoorK1
set_option linter.unusedVariables false
set_option linter.unusedSimpArgs false
-- written by a program of this session's (a turned copy of the kit's printer); Lean checks it
namespace Go.Proofs.YtamojbfmphainaaDoor.Pr
open Go.RowKit Go.Proofs.YtamojbfmphainaaDoorW.PrintWords Go.Proofs.YtamojbfmphainaaDoorW.PrintLast Go.Proofs.YtamojbfmphainaaDoorW.PrintMore
attribute [local go_sem] max2_int min2_int max_two min_two max_three min_three max_four min_four   -- for this text's walks alone

def hunk_Edits.l0:Nat→List (S72)→Int→List ByteArray→Option ((List (S72)))
 | 0,_,_,_=>none
 | k+1,x3,x4,x5=>if (x5.length:Int) > 0 then ((hunk_run.f k x5 32).bind fun t358=>(if 0≤t358 then (if t358≤(x5.length:Int) then ((hunk_run.f k (x5.drop (t358:Int).toNat) 45).bind fun t364=>(if 0≤(wrap64 (t358+t364)) then (if (wrap64 (t358+t364))≤(x5.length:Int) then ((hunk_run.f k (x5.drop ((wrap64 (t358+t364)):Int).toNat) 43).bind fun t370=>(if (wrap64 ((wrap64 (t358+t364))+t370)) > t358 then (if (wrap64 (t358+t364))≤(wrap64 ((wrap64 (t358+t364))+t370)) then (if (wrap64 ((wrap64 (t358+t364))+t370))≤(x5.length:Int) then ((hunk_bare.f k ((x5.take ((wrap64 ((wrap64 (t358+t364))+t370)):Int).toNat).drop ((wrap64 (t358+t364)):Int).toNat)).bind fun t376=>(if x3.length<3518437208883 then (if 0≤(wrap64 ((wrap64 (t358+t364))+t370)) then (hunk_Edits.l0 k (x3++[(⟨wrap64 (x4+t358),wrap64 ((wrap64 (t358+t364)) - t358),t376⟩:S72)]) (wrap64 (x4+(wrap64 (t358+t364)))) (x5.drop ((wrap64 ((wrap64 (t358+t364))+t370)):Int).toNat)) else (none)) else (none))) else (none)) else (none)) else (if 0≤(wrap64 ((wrap64 (t358+t364))+t370)) then (if (wrap64 ((wrap64 (t358+t364))+t370))≤(x5.length:Int) then (hunk_Edits.l0 k x3 (wrap64 (x4+(wrap64 (t358+t364)))) (x5.drop ((wrap64 ((wrap64 (t358+t364))+t370)):Int).toNat)) else (none)) else (none)))) else (none)) else (none))) else (none)) else (none))) else (some x3)
def hunk_Edits.f (k:Nat) (a0_0:Int) (a0_1:Int) (a0_2:Int) (a0_3:Int) (l0_4:List ByteArray):Option ((List (S72))):=hunk_Edits.l0 k ([]:List (S72)) a0_0 l0_4
set_option maxHeartbeats 8000000 in
set_option maxRecDepth 100000 in
theorem hunk_Edits.calls (k:Nat) (a0_0:Int) (a0_1:Int) (a0_2:Int) (a0_3:Int) (P0_4_:Nat→Prop) (A0_4:Option Addr) (c0_4:Nat) (l0_4:List ByteArray) (r:List (S72)) (w:World) (hs0_4:Kd.V Kd.string 9 w w.heap.size (fun k_=>P0_4_ k_) (.slice A0_4 l0_4.length c0_4) l0_4) (h:hunk_Edits.f k a0_0 a0_1 a0_2 a0_3 l0_4=some r) :
  Calls Tryd.prog 19 #[.agg #[.int .i64 a0_0,.int .i64 a0_1,.int .i64 a0_2,.int .i64 a0_3,.slice A0_4 l0_4.length c0_4]] w fun e w'=>∃ v0_:Value,e=.returned (v0_)∧Kd.S k72 72 w' w.heap.size (fun k_=>(w.heap.size≤k_)) v0_ r∧Below w.heap.size w w':=by
 have hu41:=Tryd.underlying41
 have hu72:=Tryd.underlying72
 have HO0_4:=Aside0.mk (show Kd.V Kd.string 9 w w.heap.size (fun k_=>(P0_4_ k_∨w.heap.size≤k_)) (.slice A0_4 l0_4.length c0_4) l0_4 from Kd.V_mono hs0_4 (fun k_ hk=>.inl hk))
 have HB:=Aside0.mk (Below.refl w.heap.size w)
 have H:(hunk_Edits.l0 k ([]:List (S72)) a0_0 l0_4)=some r:=h
 clear h
 have H':=Aside0.mk H
 clear H
 go_enter Tryd.func19,Tryd.ntmps19
 go_wp2_with (first|((with_reducible refine gate_dst (N:=1) rfl ?_);refine box_event ?hg (N:=1) ?hd (cs:=#[.int .i64 a0_0,.int .i64 a0_1,.int .i64 a0_2,.int .i64 a0_3,.slice A0_4 l0_4.length c0_4]) (t:=41) ?hr ?_;(case hd=>rfl);(case hg=>rfl);(case hr=>first|(go_simp;done)|(go_simp;rfl));intro gb357 hg w2 hbox hb;have n0_:=Aside0.mk (Kd.V_below (Kd.V_elderB (by (with_reducible repeat (first|apply Kd.V_alloc|apply Kd.V_drewN|apply Kd.V_drew));exact HO0_4.out) gb357 (Nat.le_of_eq hg.symm)) hb);have n1_:=Aside0.mk (below_step (by repeat (first|(with_reducible first|exact HB.out|apply below_alloc|apply pw_below_drewN|apply below_drew1)|exact HB.out)) hb);have n2_:=Aside0.mk (hbox);have n3_:=Aside0.mk ((by rw [hg];exact (below_size (by repeat (first|(with_reducible first|exact HB.out|apply below_alloc|apply pw_below_drewN|apply below_drew1)|exact HB.out))):w.heap.size≤gb357));have n4_:=Aside0.mk ((by rw [hg];exact (below_size (by repeat (first|(with_reducible first|exact HB.out|apply below_alloc|apply pw_below_drewN|apply below_drew1)|exact HB.out))):w.heap.size≤gb357));clear HO0_4;clear HB;have HO0_4:=n0_;have HB:=n1_;have BK357:=n2_;have GW357:=n3_;have GE357:=n4_;clear n0_ n1_ n2_ n3_ n4_;clear hb hbox hg;have hcz3_0:w2.cell? ⟨gb357,0,none⟩=some (.int .i64 a0_0):=(blk_cell BK357.out 0).trans rfl;have hcz3_1:w2.cell? ⟨gb357,1,none⟩=some (.int .i64 a0_1):=(blk_cell BK357.out 1).trans rfl;have hcz3_2:w2.cell? ⟨gb357,2,none⟩=some (.int .i64 a0_2):=(blk_cell BK357.out 2).trans rfl;have hcz3_3:w2.cell? ⟨gb357,3,none⟩=some (.int .i64 a0_3):=(blk_cell BK357.out 3).trans rfl;have hcz3_4:w2.cell? ⟨gb357,4,none⟩=some (.slice A0_4 l0_4.length c0_4):=(blk_cell BK357.out 4).trans rfl;have hfz3_0:=blk_frozen BK357.out 0;have hfz3_1:=blk_frozen BK357.out 1;have hfz3_2:=blk_frozen BK357.out 2;have hfz3_3:=blk_frozen BK357.out 3;have hfz3_4:=blk_frozen BK357.out 4))
 go_loopg [3,4,5] k (fun kq v3 v4 v5 w'=>∃ (x3_1:List (S72)) (x4_1:Int) (x5_1:List ByteArray),v4=.int .i64 x4_1∧Aside0 (hunk_Edits.l0 kq x3_1 x4_1 x5_1=some r)∧Aside0 (kq≤k)∧Aside0 (Kd.S k72 72 w' w.heap.size (fun k_=>(w.heap.size≤k_)) v3 x3_1)∧Aside0 (Kd.V Kd.string 9 w' w.heap.size (fun k_=>(P0_4_ k_∨w.heap.size≤k_)∧some k_≠(v3:Value).ownBlock∧k_≠gb357) v5 x5_1)∧Aside0 (Kd.V Kd.string 9 w' w.heap.size (fun k_=>(P0_4_ k_∨w.heap.size≤k_)∧some k_≠(v3:Value).ownBlock∧k_≠gb357) (.slice A0_4 l0_4.length c0_4) l0_4)∧Aside0 (w'.heap[gb357]?=some (.cells #[.int .i64 a0_0,.int .i64 a0_1,.int .i64 a0_2,.int .i64 a0_3,(.slice A0_4 l0_4.length c0_4)] 41 (0,0)))∧Aside0 (Below w.heap.size w w'))
 case atStart=>exact ⟨(([]:List (S72))),(a0_0),(l0_4),(by first|rfl|(simp;done)|(simp [*];done)),H',⟨Nat.le_refl _⟩,⟨by first|exact Kd.S_nil _ _ _ _ _|exact Kd.N_nil _ _ _ _ _|exact Kd.V_nil _ _ _ _ _|exact Kd.Q_nil _ _ _ _ _|exact Kd.R_nil _ _ _ _ _⟩,⟨by (with_reducible repeat (first|apply Kd.V_alloc|apply Kd.V_drewN|apply Kd.V_drew));exact Kd.V_mono HO0_4.out (fun _ hk=>⟨hk.1,⟨(by simp [Value.ownBlock]),hk.2⟩⟩)⟩,⟨by (with_reducible repeat (first|apply Kd.V_alloc|apply Kd.V_drewN|apply Kd.V_drew));exact Kd.V_mono HO0_4.out (fun _ hk=>⟨hk.1,⟨(by simp [Value.ownBlock]),hk.2⟩⟩)⟩,⟨by (with_reducible repeat (first|refine blk_drewN ?_ _|refine blk_drew ?_|refine blk_alloc ?_ _));exact BK357.out⟩,⟨by repeat (first|(with_reducible first|exact HB.out|apply below_alloc|apply pw_below_drewN|apply below_drew1|refine below_set ?_ GE357.out)|exact HB.out)⟩⟩
 case round =>
  clear H'
  try clear c1
  try clear p2
  try clear hcz3_0
  try clear hcz3_1
  try clear hcz3_2
  try clear hcz3_3
  try clear hcz3_4
  try clear hfz3_0
  try clear hfz3_1
  try clear hfz3_2
  try clear hfz3_3
  try clear hfz3_4
  obtain ⟨x3_1,x4_1,x5_1,rfl,HA,HK1,HO_3,HO_5,HO_358004,BK357,HB⟩:=hrel
  cases gk with
  | zero=>exact absurd HA.out (by simp [hunk_Edits.l0])
  | succ k1 =>
   have H:=HA.out
   clear HA
   simp only [hunk_Edits.l0] at H
   by_cases c4:(x5_1.length:Int) > 0
   ·rw [if_pos c4] at H
    have c4b0:decide (0<(x5_1.length:Int))=true:=decide_eq_true c4
    have c4b1:decide (0<x5_1.length)=true:=decide_eq_true (by omega)
    clear c4
    replace H:=Option.bind_eq_some_iff.mp H
    obtain ⟨t358,A50,H⟩:=H
    replace H:(if 0≤t358 then (if t358≤(x5_1.length:Int) then ((hunk_run.f k1 (x5_1.drop (t358:Int).toNat) 45).bind fun t364=>(if 0≤(wrap64 (t358+t364)) then (if (wrap64 (t358+t364))≤(x5_1.length:Int) then ((hunk_run.f k1 (x5_1.drop ((wrap64 (t358+t364)):Int).toNat) 43).bind fun t370=>(if (wrap64 ((wrap64 (t358+t364))+t370)) > t358 then (if (wrap64 (t358+t364))≤(wrap64 ((wrap64 (t358+t364))+t370)) then (if (wrap64 ((wrap64 (t358+t364))+t370))≤(x5_1.length:Int) then ((hunk_bare.f k1 ((x5_1.take ((wrap64 ((wrap64 (t358+t364))+t370)):Int).toNat).drop ((wrap64 (t358+t364)):Int).toNat)).bind fun t376=>(if x3_1.length<3518437208883 then (if 0≤(wrap64 ((wrap64 (t358+t364))+t370)) then (hunk_Edits.l0 k1 (x3_1++[(⟨wrap64 (x4_1+t358),wrap64 ((wrap64 (t358+t364)) - t358),t376⟩:S72)]) (wrap64 (x4_1+(wrap64 (t358+t364)))) (x5_1.drop ((wrap64 ((wrap64 (t358+t364))+t370)):Int).toNat)) else (none)) else (none))) else (none)) else (none)) else (if 0≤(wrap64 ((wrap64 (t358+t364))+t370)) then (if (wrap64 ((wrap64 (t358+t364))+t370))≤(x5_1.length:Int) then (hunk_Edits.l0 k1 x3_1 (wrap64 (x4_1+(wrap64 (t358+t364)))) (x5_1.drop ((wrap64 ((wrap64 (t358+t364))+t370)):Int).toNat)) else (none)) else (none)))) else (none)) else (none))) else (none)) else (none))=some r:=H
    have A5:=Aside0.mk A50
    clear A50
    by_cases c6:0≤t358
    ·rw [if_pos c6] at H
     have c6b0:=eq_true c6
     have c6b1:decide (0≤t358)=true:=decide_eq_true c6
     clear c6
     by_cases c7:t358≤(x5_1.length:Int)
     ·rw [if_pos c7] at H
      have c7b0:=eq_true c7
      have c7b1:decide (t358≤(x5_1.length:Int))=true:=decide_eq_true c7
      clear c7
      obtain ⟨y359,hy359⟩:∃ y_:List ByteArray,y_=(x5_1.drop (t358:Int).toNat):=⟨_,rfl⟩
      replace H:((hunk_run.f k1 y359 45).bind fun t364=>(if 0≤(wrap64 (t358+t364)) then (if (wrap64 (t358+t364))≤(x5_1.length:Int) then ((hunk_run.f k1 (x5_1.drop ((wrap64 (t358+t364)):Int).toNat) 43).bind fun t370=>(if (wrap64 ((wrap64 (t358+t364))+t370)) > t358 then (if (wrap64 (t358+t364))≤(wrap64 ((wrap64 (t358+t364))+t370)) then (if (wrap64 ((wrap64 (t358+t364))+t370))≤(x5_1.length:Int) then ((hunk_bare.f k1 ((x5_1.take ((wrap64 ((wrap64 (t358+t364))+t370)):Int).toNat).drop ((wrap64 (t358+t364)):Int).toNat)).bind fun t376=>(if x3_1.length<3518437208883 then (if 0≤(wrap64 ((wrap64 (t358+t364))+t370)) then (hunk_Edits.l0 k1 (x3_1++[(⟨wrap64 (x4_1+t358),wrap64 ((wrap64 (t358+t364)) - t358),t376⟩:S72)]) (wrap64 (x4_1+(wrap64 (t358+t364)))) (x5_1.drop ((wrap64 ((wrap64 (t358+t364))+t370)):Int).toNat)) else (none)) else (none))) else (none)) else (none)) else (if 0≤(wrap64 ((wrap64 (t358+t364))+t370)) then (if (wrap64 ((wrap64 (t358+t364))+t370))≤(x5_1.length:Int) then (hunk_Edits.l0 k1 x3_1 (wrap64 (x4_1+(wrap64 (t358+t364)))) (x5_1.drop ((wrap64 ((wrap64 (t358+t364))+t370)):Int).toNat)) else (none)) else (none)))) else (none)) else (none)))=some r:=by first|(rw [hy359];with_reducible exact H)|(have H2_:=(Option.bind_some _ _).symm.trans H;rw [hy359];with_reducible exact H2_)|(have H2_:=(Option.bind_some _ _).symm.trans H;with_reducible exact H2_)|with_reducible exact H|(rw [hy359];exact H)|exact H
      have Ny359:=Aside0.mk hy359
      clear hy359
      replace H:=Option.bind_eq_some_iff.mp H
      obtain ⟨t364,A80,H⟩:=H
      replace H:(if 0≤(wrap64 (t358+t364)) then (if (wrap64 (t358+t364))≤(x5_1.length:Int) then ((hunk_run.f k1 (x5_1.drop ((wrap64 (t358+t364)):Int).toNat) 43).bind fun t370=>(if (wrap64 ((wrap64 (t358+t364))+t370)) > t358 then (if (wrap64 (t358+t364))≤(wrap64 ((wrap64 (t358+t364))+t370)) then (if (wrap64 ((wrap64 (t358+t364))+t370))≤(x5_1.length:Int) then ((hunk_bare.f k1 ((x5_1.take ((wrap64 ((wrap64 (t358+t364))+t370)):Int).toNat).drop ((wrap64 (t358+t364)):Int).toNat)).bind fun t376=>(if x3_1.length<3518437208883 then (if 0≤(wrap64 ((wrap64 (t358+t364))+t370)) then (hunk_Edits.l0 k1 (x3_1++[(⟨wrap64 (x4_1+t358),wrap64 ((wrap64 (t358+t364)) - t358),t376⟩:S72)]) (wrap64 (x4_1+(wrap64 (t358+t364)))) (x5_1.drop ((wrap64 ((wrap64 (t358+t364))+t370)):Int).toNat)) else (none)) else (none))) else (none)) else (none)) else (if 0≤(wrap64 ((wrap64 (t358+t364))+t370)) then (if (wrap64 ((wrap64 (t358+t364))+t370))≤(x5_1.length:Int) then (hunk_Edits.l0 k1 x3_1 (wrap64 (x4_1+(wrap64 (t358+t364)))) (x5_1.drop ((wrap64 ((wrap64 (t358+t364))+t370)):Int).toNat)) else (none)) else (none)))) else (none)) else (none))=some r:=H
      have A8:=Aside0.mk A80
      clear A80
      obtain ⟨ji9,hji9⟩:∃ j_:Int,(wrap64 (t358+t364))=j_:=⟨_,rfl⟩
      replace H:(if 0≤(ji9) then (if (ji9)≤(x5_1.length:Int) then ((hunk_run.f k1 (x5_1.drop ((ji9):Int).toNat) 43).bind fun t370=>(if (wrap64 ((ji9)+t370)) > t358 then (if (ji9)≤(wrap64 ((ji9)+t370)) then (if (wrap64 ((ji9)+t370))≤(x5_1.length:Int) then ((hunk_bare.f k1 ((x5_1.take ((wrap64 ((ji9)+t370)):Int).toNat).drop ((ji9):Int).toNat)).bind fun t376=>(if x3_1.length<3518437208883 then (if 0≤(wrap64 ((ji9)+t370)) then (hunk_Edits.l0 k1 (x3_1++[(⟨wrap64 (x4_1+t358),wrap64 ((ji9) - t358),t376⟩:S72)]) (wrap64 (x4_1+(ji9))) (x5_1.drop ((wrap64 ((ji9)+t370)):Int).toNat)) else (none)) else (none))) else (none)) else (none)) else (if 0≤(wrap64 ((ji9)+t370)) then (if (wrap64 ((ji9)+t370))≤(x5_1.length:Int) then (hunk_Edits.l0 k1 x3_1 (wrap64 (x4_1+(ji9))) (x5_1.drop ((wrap64 ((ji9)+t370)):Int).toNat)) else (none)) else (none)))) else (none)) else (none))=some r:=by first|(rw [hji9] at H;exact H)|(simp only [hji9] at H ⊢;exact H)
      (try rw [hji9] at A5)
      (try rw [hji9] at A8)
      have hji9w:(IntKind.i64.wrap (t358+t364))=ji9:=(i64_w _).trans hji9
      by_cases c10:0≤(ji9)
      ·rw [if_pos c10] at H
       have c10b0:=eq_true c10
       have c10b1:decide (0≤(ji9))=true:=decide_eq_true c10
       clear c10
       by_cases c11:(ji9)≤(x5_1.length:Int)
       ·rw [if_pos c11] at H
        have c11b0:=eq_true c11
        have c11b1:decide ((ji9)≤(x5_1.length:Int))=true:=decide_eq_true c11
        clear c11
        obtain ⟨y365,hy365⟩:∃ y_:List ByteArray,y_=(x5_1.drop ((ji9):Int).toNat):=⟨_,rfl⟩
        replace H:((hunk_run.f k1 y365 43).bind fun t370=>(if (wrap64 ((ji9)+t370)) > t358 then (if (ji9)≤(wrap64 ((ji9)+t370)) then (if (wrap64 ((ji9)+t370))≤(x5_1.length:Int) then ((hunk_bare.f k1 ((x5_1.take ((wrap64 ((ji9)+t370)):Int).toNat).drop ((ji9):Int).toNat)).bind fun t376=>(if x3_1.length<3518437208883 then (if 0≤(wrap64 ((ji9)+t370)) then (hunk_Edits.l0 k1 (x3_1++[(⟨wrap64 (x4_1+t358),wrap64 ((ji9) - t358),t376⟩:S72)]) (wrap64 (x4_1+(ji9))) (x5_1.drop ((wrap64 ((ji9)+t370)):Int).toNat)) else (none)) else (none))) else (none)) else (none)) else (if 0≤(wrap64 ((ji9)+t370)) then (if (wrap64 ((ji9)+t370))≤(x5_1.length:Int) then (hunk_Edits.l0 k1 x3_1 (wrap64 (x4_1+(ji9))) (x5_1.drop ((wrap64 ((ji9)+t370)):Int).toNat)) else (none)) else (none))))=some r:=by first|(rw [hy365];with_reducible exact H)|(have H2_:=(Option.bind_some _ _).symm.trans H;rw [hy365];with_reducible exact H2_)|(have H2_:=(Option.bind_some _ _).symm.trans H;with_reducible exact H2_)|with_reducible exact H|(rw [hy365];exact H)|exact H
        have Ny365:=Aside0.mk hy365
        clear hy365
        replace H:=Option.bind_eq_some_iff.mp H
        obtain ⟨t370,A120,H⟩:=H
        replace H:(if (wrap64 ((ji9)+t370)) > t358 then (if (ji9)≤(wrap64 ((ji9)+t370)) then (if (wrap64 ((ji9)+t370))≤(x5_1.length:Int) then ((hunk_bare.f k1 ((x5_1.take ((wrap64 ((ji9)+t370)):Int).toNat).drop ((ji9):Int).toNat)).bind fun t376=>(if x3_1.length<3518437208883 then (if 0≤(wrap64 ((ji9)+t370)) then (hunk_Edits.l0 k1 (x3_1++[(⟨wrap64 (x4_1+t358),wrap64 ((ji9) - t358),t376⟩:S72)]) (wrap64 (x4_1+(ji9))) (x5_1.drop ((wrap64 ((ji9)+t370)):Int).toNat)) else (none)) else (none))) else (none)) else (none)) else (if 0≤(wrap64 ((ji9)+t370)) then (if (wrap64 ((ji9)+t370))≤(x5_1.length:Int) then (hunk_Edits.l0 k1 x3_1 (wrap64 (x4_1+(ji9))) (x5_1.drop ((wrap64 ((ji9)+t370)):Int).toNat)) else (none)) else (none)))=some r:=H
        have A12:=Aside0.mk A120
        clear A120
        by_cases c13:(wrap64 ((ji9)+t370)) > t358
        ·rw [if_pos c13] at H
         have c13b0:decide (t358<(wrap64 ((ji9)+t370)))=true:=decide_eq_true c13
         clear c13
         have c14b0:=eq_true (of_decide_eq_true (by first|(with_reducible assumption)|assumption):0≤(ji9))
         by_cases c15:(ji9)≤(wrap64 ((ji9)+t370))
         ·rw [if_pos c15] at H
          have c15b0:=eq_true c15
          have c15b1:decide ((ji9)≤(wrap64 ((ji9)+t370)))=true:=decide_eq_true c15
          by_cases c16:(wrap64 ((ji9)+t370))≤(x5_1.length:Int)
          ·rw [if_pos c16] at H
           have c16b0:=eq_true c16
           have c16b1:decide ((wrap64 ((ji9)+t370))≤(x5_1.length:Int))=true:=decide_eq_true c16
           obtain ⟨y371,hy371⟩:∃ y_:List ByteArray,y_=((x5_1.take ((wrap64 ((ji9)+t370)):Int).toNat).drop ((ji9):Int).toNat):=⟨_,rfl⟩
           replace H:((hunk_bare.f k1 y371).bind fun t376=>(if x3_1.length<3518437208883 then (if 0≤(wrap64 ((ji9)+t370)) then (hunk_Edits.l0 k1 (x3_1++[(⟨wrap64 (x4_1+t358),wrap64 ((ji9) - t358),t376⟩:S72)]) (wrap64 (x4_1+(ji9))) (x5_1.drop ((wrap64 ((ji9)+t370)):Int).toNat)) else (none)) else (none)))=some r:=by first|(rw [hy371];with_reducible exact H)|(have H2_:=(Option.bind_some _ _).symm.trans H;rw [hy371];with_reducible exact H2_)|(have H2_:=(Option.bind_some _ _).symm.trans H;with_reducible exact H2_)|with_reducible exact H|(rw [hy371];exact H)|exact H
           have Ny371:=Aside0.mk hy371
           clear hy371
           replace H:=Option.bind_eq_some_iff.mp H
           obtain ⟨t376,A170,H⟩:=H
           replace H:(if x3_1.length<3518437208883 then (if 0≤(wrap64 ((ji9)+t370)) then (hunk_Edits.l0 k1 (x3_1++[(⟨wrap64 (x4_1+t358),wrap64 ((ji9) - t358),t376⟩:S72)]) (wrap64 (x4_1+(ji9))) (x5_1.drop ((wrap64 ((ji9)+t370)):Int).toNat)) else (none)) else (none))=some r:=H
           have A17:=Aside0.mk A170
           clear A170
           by_cases c18:x3_1.length<3518437208883
           ·rw [if_pos c18] at H
            have LMc18:=Aside0.mk c18
            clear c18
            obtain ⟨y379,hy379⟩:∃ y_:List (S72),y_=(x3_1++[(⟨wrap64 (x4_1+t358),wrap64 ((ji9) - t358),t376⟩:S72)]):=⟨_,rfl⟩
            replace H:(if 0≤(wrap64 ((ji9)+t370)) then (hunk_Edits.l0 k1 y379 (wrap64 (x4_1+(ji9))) (x5_1.drop ((wrap64 ((ji9)+t370)):Int).toNat)) else (none))=some r:=by first|(rw [hy379];with_reducible exact H)|(have H2_:=(Option.bind_some _ _).symm.trans H;rw [hy379];with_reducible exact H2_)|(have H2_:=(Option.bind_some _ _).symm.trans H;with_reducible exact H2_)|with_reducible exact H|(rw [hy379];exact H)|exact H
            have Ny379:=Aside0.mk hy379
            clear hy379
            obtain ⟨ji19,hji19⟩:∃ j_:Int,(wrap64 ((ji9)+t370))=j_:=⟨_,rfl⟩
            replace H:(if 0≤(ji19) then (hunk_Edits.l0 k1 y379 (wrap64 (x4_1+(ji9))) (x5_1.drop ((ji19):Int).toNat)) else (none))=some r:=by first|(rw [hji19] at H;exact H)|(simp only [hji19] at H ⊢;exact H)
            (try rw [hji19] at c13b0)
            (try rw [hji19] at c15b0)
            (try rw [hji19] at c15b1)
            (try rw [hji19] at c15)
            (try rw [hji19] at c16b0)
            (try rw [hji19] at c16b1)
            (try rw [hji19] at c16)
            (try rw [hji19] at A5)
            (try rw [hji19] at A8)
            (try rw [hji19] at A12)
            (try rw [hji19] at Ny371)
            (try rw [hji19] at A17)
            have hji19w:(IntKind.i64.wrap ((ji9)+t370))=ji19:=(i64_w _).trans hji19
            by_cases c20:0≤(ji19)
            ·rw [if_pos c20] at H
             have c20b0:=eq_true c20
             have c20b1:decide (0≤(ji19))=true:=decide_eq_true c20
             clear c20
             have c21b0:=eq_true (of_decide_eq_true (by first|(with_reducible assumption)|assumption):(ji19)≤(x5_1.length:Int))
             obtain ⟨y382,hy382⟩:∃ y_:List ByteArray,y_=(x5_1.drop ((ji19):Int).toNat):=⟨_,rfl⟩
             replace H:(hunk_Edits.l0 k1 y379 (wrap64 (x4_1+(ji9))) y382)=some r:=by first|(rw [hy382];with_reducible exact H)|(have H2_:=(Option.bind_some _ _).symm.trans H;rw [hy382];with_reducible exact H2_)|(have H2_:=(Option.bind_some _ _).symm.trans H;with_reducible exact H2_)|with_reducible exact H|(rw [hy382];exact H)|exact H
             have Ny382:=Aside0.mk hy382
             clear hy382
             have H':=Aside0.mk H
             clear H
             obtain ⟨Ao22,co22,eo22⟩:=Kd.V_slice HO_5.out
             subst eo22
             go_wp2_with (first|((with_reducible refine gate_callee (f:=48) rfl ?_);refine goesL_ (some 17) rfl rfl Tryd.func48 (by kernel_rfl) rfl #[.slice Ao22 x5_1.length co22,.int .u8 32] rfl (by (try simp only [List.map_toArray,List.map_cons,List.map_nil]);first|done|rfl|(simp only [List.length_drop,List.length_take];rfl)) ?_;(with_reducible refine (hunk_run.calls k1 _ _ x5_1 32 t358 _ ?side1 ?side2 A5.out).mono ?_);(case side1=>repeat (first|exact (Kd.V_reads' HO_5.out).2.2|(with_reducible refine Kd.C_alloc ?_ _)|(with_reducible refine Kd.C_drewN ?_ _)|(with_reducible refine Kd.C_drew ?_)));(case side2=>exact (Kd.V_reads' HO_5.out).2.1);rintro e w' ⟨rfl,⟨nd,rfl⟩⟩;refine ⟨_,rfl,?_⟩;have q23:(t358:Int)≤((x5_1.length:Int):Int):=of_decide_eq_true (by first|(with_reducible assumption)|assumption);obtain ⟨i023,hi023,_,hsz23,_⟩:=info_parts info9;have hroom23:x5_1.length≤co22:=(Kd.V_reads' HO_5.out).2.1;have hC23:Kd.F Kd.string _ _ Ao22 x5_1.length x5_1:=(Kd.V_at (base:=w.heap.size) HO_5.out).2.2;have q023:(0:Int)≤(t358:Int):=of_decide_eq_true (by first|(with_reducible assumption)|assumption);have hcut23:=cut_from (P:=Tryd.prog) 33 9 .i64 Tryd.underlying33 hi023 1 hsz23 Ao22 x5_1.length co22 t358 q023 q23;have hr23:=Kd.F_cut (m:=(t358:Int).toNat) (c:=co22) hC23 (by omega) hroom23;obtain ⟨A23,hA23⟩:∃ A1,A1=(if co22=(t358:Int).toNat then Ao22 else (Ao22:Option Addr).map (·.add ((t358:Int).toNat * 1))):=⟨_,rfl⟩;obtain ⟨c23,hc23⟩:∃ c1,c1=co22 - (t358:Int).toNat:=⟨_,rfl⟩;have hy23:y359.length=x5_1.length - (t358:Int).toNat:=(by rw [Ny359.out,List.length_drop]<;>omega);rw [show (x5_1).drop (t358:Int).toNat=y359 from Ny359.out.symm] at hr23;replace hr23:Kd.F Kd.string _ _ A23 y359.length y359:=(by rw [hA23];exact hr23);rw [← hy23,← hA23,← hc23] at hcut23;have HO363:=Aside0.mk (show Kd.V Kd.string 9 _ w.heap.size _ (.slice A23 y359.length c23) y359 from Kd.V_mk (by rw [hy23,hc23];exact Nat.sub_le_sub_right hroom23 _) hr23);have HC363:=Aside0.mk (show y359.length≤c23 from by rw [hy23,hc23];exact Nat.sub_le_sub_right hroom23 _);clear hr23 hC23 hroom23 hi023 hsz23 hc23;have KY23:=Aside0.mk hy23;have KA23:=Aside0.mk hA23;clear hy23 hA23;replace q23:=eq_true q23)|((with_reducible refine gate_callee (f:=48) rfl ?_);refine goesL_ (some 22) rfl rfl Tryd.func48 (by kernel_rfl) rfl #[.slice A23 y359.length c23,.int .u8 45] rfl (by (try simp only [List.map_toArray,List.map_cons,List.map_nil]);first|done|rfl|(simp only [List.length_drop,List.length_take];rfl)) ?_;(with_reducible refine (hunk_run.calls k1 _ _ y359 45 t364 _ ?side1 ?side2 A8.out).mono ?_);(case side1=>repeat (first|exact (Kd.V_reads' HO363.out).2.2|(with_reducible refine Kd.C_alloc ?_ _)|(with_reducible refine Kd.C_drewN ?_ _)|(with_reducible refine Kd.C_drew ?_)));(case side2=>exact (Kd.V_reads' HO363.out).2.1);rintro e w' ⟨rfl,⟨nd,rfl⟩⟩;refine ⟨_,rfl,?_⟩;have q24:((ji9):Int)≤((x5_1.length:Int):Int):=of_decide_eq_true (by first|(with_reducible assumption)|assumption);obtain ⟨i024,hi024,_,hsz24,_⟩:=info_parts info9;have hroom24:x5_1.length≤co22:=(Kd.V_reads' HO_5.out).2.1;have hC24:Kd.F Kd.string _ _ Ao22 x5_1.length x5_1:=(Kd.V_at (base:=w.heap.size) HO_5.out).2.2;have q024:(0:Int)≤((ji9):Int):=of_decide_eq_true (by first|(with_reducible assumption)|assumption);have hcut24:=cut_from (P:=Tryd.prog) 33 9 .i64 Tryd.underlying33 hi024 1 hsz24 Ao22 x5_1.length co22 (ji9) q024 q24;have hr24:=Kd.F_cut (m:=((ji9):Int).toNat) (c:=co22) hC24 (by omega) hroom24;obtain ⟨A24,hA24⟩:∃ A1,A1=(if co22=((ji9):Int).toNat then Ao22 else (Ao22:Option Addr).map (·.add (((ji9):Int).toNat * 1))):=⟨_,rfl⟩;obtain ⟨c24,hc24⟩:∃ c1,c1=co22 - ((ji9):Int).toNat:=⟨_,rfl⟩;have hy24:y365.length=x5_1.length - ((ji9):Int).toNat:=(by rw [Ny365.out,List.length_drop]<;>omega);rw [show (x5_1).drop ((ji9):Int).toNat=y365 from Ny365.out.symm] at hr24;replace hr24:Kd.F Kd.string _ _ A24 y365.length y365:=(by rw [hA24];exact hr24);rw [← hy24,← hA24,← hc24] at hcut24;have HO369:=Aside0.mk (show Kd.V Kd.string 9 _ w.heap.size _ (.slice A24 y365.length c24) y365 from Kd.V_mk (by rw [hy24,hc24];exact Nat.sub_le_sub_right hroom24 _) hr24);have HC369:=Aside0.mk (show y365.length≤c24 from by rw [hy24,hc24];exact Nat.sub_le_sub_right hroom24 _);clear hr24 hC24 hroom24 hi024 hsz24 hc24;have KY24:=Aside0.mk hy24;have KA24:=Aside0.mk hA24;clear hy24 hA24;replace q24:=eq_true q24)|((with_reducible refine gate_callee (f:=48) rfl ?_);refine goesL_ (some 28) rfl rfl Tryd.func48 (by kernel_rfl) rfl #[.slice A24 y365.length c24,.int .u8 43] rfl (by (try simp only [List.map_toArray,List.map_cons,List.map_nil]);first|done|rfl|(simp only [List.length_drop,List.length_take];rfl)) ?_;(with_reducible refine (hunk_run.calls k1 _ _ y365 43 t370 _ ?side1 ?side2 A12.out).mono ?_);(case side1=>repeat (first|exact (Kd.V_reads' HO369.out).2.2|(with_reducible refine Kd.C_alloc ?_ _)|(with_reducible refine Kd.C_drewN ?_ _)|(with_reducible refine Kd.C_drew ?_)));(case side2=>exact (Kd.V_reads' HO369.out).2.1);rintro e w' ⟨rfl,⟨nd,rfl⟩⟩;refine ⟨_,rfl,?_⟩;have q25:((ji19):Int)≤((x5_1.length:Int):Int):=of_decide_eq_true (by first|(with_reducible assumption)|assumption);obtain ⟨i025,hi025,_,hsz25,_⟩:=info_parts info9;have hroom25:x5_1.length≤co22:=(Kd.V_reads' HO_5.out).2.1;have hC25:Kd.F Kd.string _ _ Ao22 x5_1.length x5_1:=(Kd.V_at (base:=w.heap.size) HO_5.out).2.2;have ql25:((ji9):Int)≤((ji19):Int):=of_decide_eq_true (by first|(with_reducible assumption)|assumption);have q025:(0:Int)≤((ji9):Int):=of_decide_eq_true (by first|(with_reducible assumption)|assumption);have hcut25:=cut_mid (P:=Tryd.prog) 33 9 .i64 .i64 Tryd.underlying33 hi025 1 hsz25 Ao22 x5_1.length co22 (ji9) (ji19) q025 ql25 q25 hroom25;have hr25:=Kd.F_mid (lo:=((ji9):Int).toNat) (hi:=((ji19):Int).toNat) (c:=co22) hC25 (by omega) (by omega) hroom25;obtain ⟨A25,hA25⟩:∃ A1,A1=(if co22=((ji9):Int).toNat then Ao22 else (Ao22:Option Addr).map (·.add (((ji9):Int).toNat * 1))):=⟨_,rfl⟩;obtain ⟨c25,hc25⟩:∃ c1,c1=co22 - ((ji9):Int).toNat:=⟨_,rfl⟩;have hy25:y371.length=((ji19):Int).toNat - ((ji9):Int).toNat:=(by rw [Ny371.out,List.length_drop,List.length_take]<;>omega);rw [show ((x5_1).take ((ji19):Int).toNat).drop ((ji9):Int).toNat=y371 from Ny371.out.symm] at hr25;replace hr25:Kd.F Kd.string _ _ A25 y371.length y371:=(by rw [hA25];exact hr25);rw [← hy25,← hA25,← hc25] at hcut25;have HO375:=Aside0.mk (show Kd.V Kd.string 9 _ w.heap.size _ (.slice A25 y371.length c25) y371 from Kd.V_mk (by rw [hy25,hc25];exact Nat.sub_le_sub_right (Nat.le_trans (by omega) hroom25) _) hr25);have HC375:=Aside0.mk (show y371.length≤c25 from by rw [hy25,hc25];exact Nat.sub_le_sub_right (Nat.le_trans (by omega) hroom25) _);clear hr25 hC25 hroom25 hi025 hsz25 hc25;have KY25:=Aside0.mk hy25;have KA25:=Aside0.mk hA25;clear hy25 hA25;replace q25:=eq_true q25)|((with_reducible refine gate_callee (f:=49) rfl ?_);refine goesL_ (some 44) rfl rfl Tryd.func49 (by kernel_rfl) rfl #[.slice A25 y371.length c25] rfl (by (try simp only [List.map_toArray,List.map_cons,List.map_nil]);first|done|rfl|(simp only [List.length_drop,List.length_take];rfl)) ?_;(with_reducible refine (hunk_bare.calls k1 _ _ y371 t376 _ ?side1 ?side2 A17.out).mono ?_);(case side1=>repeat (first|exact (Kd.V_reads' HO375.out).2.2|(with_reducible refine Kd.C_alloc ?_ _)|(with_reducible refine Kd.C_drewN ?_ _)|(with_reducible refine Kd.C_drew ?_)));(case side2=>exact (Kd.V_reads' HO375.out).2.1);rintro e w26 ⟨v377,rfl,ho0,hb⟩;refine ⟨_,rfl,?_⟩;have n0_:=Aside0.mk (Kd.S_elder' (by (with_reducible repeat (first|apply Kd.S_alloc|apply Kd.S_drewN|apply Kd.S_drew));exact HO_3.out) (Kd.R_base ho0) hb);have n1_:=Aside0.mk (Kd.V_elder' (by (with_reducible repeat (first|apply Kd.V_alloc|apply Kd.V_drewN|apply Kd.V_drew));exact HO_5.out) (Kd.R_base ho0) hb);have n2_:=Aside0.mk (Kd.V_elder' (by (with_reducible repeat (first|apply Kd.V_alloc|apply Kd.V_drewN|apply Kd.V_drew));exact HO_358004.out) (Kd.R_base ho0) hb);have n3_:=Aside0.mk (Kd.V_elder' (by (with_reducible repeat (first|apply Kd.V_alloc|apply Kd.V_drewN|apply Kd.V_drew));exact HO363.out) (Kd.R_base ho0) hb);have n4_:=Aside0.mk (Kd.V_elder' (by (with_reducible repeat (first|apply Kd.V_alloc|apply Kd.V_drewN|apply Kd.V_drew));exact HO369.out) (Kd.R_base ho0) hb);have n5_:=Aside0.mk (Kd.V_elder' (by (with_reducible repeat (first|apply Kd.V_alloc|apply Kd.V_drewN|apply Kd.V_drew));exact HO375.out) (Kd.R_base ho0) hb);have n6_:=Aside0.mk (Kd.R_lower (Kd.R_newM (M:=fun k_=>(w.heap.size≤k_)) ho0 (below_size (by repeat (first|(with_reducible first|exact HB.out|apply below_alloc|apply pw_below_drewN|apply below_drew1|refine below_set ?_ GE357.out)|exact HB.out))) (fun k_ h_=>h_)) (below_size (by repeat (first|(with_reducible first|exact HB.out|apply below_alloc|apply pw_below_drewN|apply below_drew1|refine below_set ?_ GE357.out)|exact HB.out))));have n7_:=Aside0.mk (blk_below (g:=gb357) (o:=.cells #[.int .i64 a0_0,.int .i64 a0_1,.int .i64 a0_2,.int .i64 a0_3,.slice A0_4 l0_4.length c0_4] 41 (0,0)) (by (with_reducible repeat (first|refine blk_drewN ?_ _|refine blk_drew ?_|refine blk_alloc ?_ _));exact BK357.out) hb);have n8_:=Aside0.mk (below_step (by repeat (first|(with_reducible first|exact HB.out|apply below_alloc|apply pw_below_drewN|apply below_drew1|refine below_set ?_ GE357.out)|exact HB.out)) hb);clear HO_3;clear HO_5;clear HO_358004;clear HO363;clear HO369;clear HO375;clear BK357;clear HB;have HO_3:=n0_;have HO_5:=n1_;have HO_358004:=n2_;have HO363:=n3_;have HO369:=n4_;have HO375:=n5_;have HO378:=n6_;have BK357:=n7_;have HB:=n8_;clear n0_ n1_ n2_ n3_ n4_ n5_ n6_ n7_ n8_;(try clear hb);(try clear hb2);(try clear hk);(try clear hi);(try clear ho0);obtain ⟨Ao27,co27,eo27⟩:=Kd.R_slice HO378.out;subst eo27)|((with_reducible refine gate_builtin (b:=.append) (xs:=#[.tmp 33,.tmp 46]) rfl ?_);at_builtin;refine Kd.S_append k72 (w0:=w) w.heap.size rfl (.tmp 33) (.tmp 46) 35 72 (.agg #[(.int .i64 0),(.int .i64 0),(.slice none 0 0)]) 40 rfl Tryd.underlying35 info72 rfl (by decide) (by omega) u3 x3_1 (⟨wrap64 (x4_1+t358),wrap64 ((ji9) - t358),t376⟩:S72) [.int .i64 (wrap64 (x4_1+t358)),.int .i64 (wrap64 ((ji9) - t358)),.slice Ao27 t376.length co27] (fun k_=>(w.heap.size≤k_)) (fun k_=>some k_=(.slice Ao27 t376.length co27:Value).ownBlock) rfl rfl ?aP (fun k_ hk_=>((Kd.R_mono (ok':=fun k_=>((fun k_=>(w.heap.size≤k_))) k_∧some k_≠(u3:Value).ownBlock) (Kd.R_apart' (HO378.out) (Kd.S_typed HO_3.out) (by decide)) (fun k_ hk=>⟨hk.1.1,hk.2⟩))).1 k_ hk_.symm) ?aF ?aO ?aB ?aS ?aL ?_;(case aP=>exact k72_mkM _ _ _ (⟨wrap64 (x4_1+t358),wrap64 ((ji9) - t358),t376⟩:S72) (Kd.R_mono (Kd.R_tight rfl (Kd.R_mono (ok':=fun k_=>((fun k_=>(w.heap.size≤k_))) k_∧some k_≠(u3:Value).ownBlock) (Kd.R_apart' (HO378.out) (Kd.S_typed HO_3.out) (by decide)) (fun k_ hk=>⟨hk.1.1,hk.2⟩))) (fun _ h_=>h_)));(case aB=>exact (by repeat (first|(with_reducible first|exact HB.out|apply below_alloc|apply pw_below_drewN|apply below_drew1|refine below_set ?_ GE357.out)|exact HB.out)));(case aF=>exact (fun k_ hk=>(Nat.le_trans (below_size (by repeat (first|(with_reducible first|exact HB.out|apply below_alloc|apply pw_below_drewN|apply below_drew1|refine below_set ?_ GE357.out)|exact HB.out))) hk)));(case aO=>exact (by (with_reducible repeat (first|apply Kd.S_alloc|apply Kd.S_drewN|apply Kd.S_drew));exact Kd.S_mono HO_3.out (fun k_ hk=>⟨hk.1,fun e_=>hk.2 e_⟩)));(case aS=>exact (below_size (by repeat (first|(with_reducible first|exact HB.out|apply below_alloc|apply pw_below_drewN|apply below_drew1|refine below_set ?_ GE357.out)|exact HB.out))));(case aL=>have:=LMc18.out;omega);intro v380 w28 ho hb hg hat;rw [← Ny379.out] at ho;have n0_:=Aside0.mk (Kd.V_afterv (ok:=(fun k_=>(P0_4_ k_∨w.heap.size≤k_)∧some k_≠(.slice Ao27 t376.length co27:Value).ownBlock∧k_≠gb357)) (by (with_reducible repeat (first|apply Kd.V_alloc|apply Kd.V_drewN|apply Kd.V_drew));exact Kd.V_mono HO_5.out (fun _ hk=>⟨⟨hk.1.1,⟨hk.2,hk.1.2.2⟩⟩,hk.1.2.1⟩)) hg hat);have n1_:=Aside0.mk (Kd.V_afterv (ok:=(fun k_=>(P0_4_ k_∨w.heap.size≤k_)∧some k_≠(.slice Ao27 t376.length co27:Value).ownBlock∧k_≠gb357)) (by (with_reducible repeat (first|apply Kd.V_alloc|apply Kd.V_drewN|apply Kd.V_drew));exact Kd.V_mono HO_358004.out (fun _ hk=>⟨⟨hk.1.1,⟨hk.2,hk.1.2.2⟩⟩,hk.1.2.1⟩)) hg hat);have n2_:=Aside0.mk (blk_grown (g:=gb357) (o:=.cells #[.int .i64 a0_0,.int .i64 a0_1,.int .i64 a0_2,.int .i64 a0_3,.slice A0_4 l0_4.length c0_4] 41 (0,0)) (by (with_reducible repeat (first|refine blk_drewN ?_ _|refine blk_drew ?_|refine blk_alloc ?_ _));exact BK357.out) hg (Kd.S_ne HO_3.out BK357.out (by decide)));have n3_:=Aside0.mk (Kd.V_afterv (ok:=(fun k_=>(P0_4_ k_∨w.heap.size≤k_)∧some k_≠(.slice Ao27 t376.length co27:Value).ownBlock∧k_≠gb357)) (by (with_reducible repeat (first|apply Kd.V_alloc|apply Kd.V_drewN|apply Kd.V_drew));exact Kd.V_mono HO363.out (fun _ hk=>⟨⟨hk.1.1,⟨hk.2,hk.1.2.2⟩⟩,hk.1.2.1⟩)) hg hat);have n4_:=Aside0.mk (Kd.V_afterv (ok:=(fun k_=>(P0_4_ k_∨w.heap.size≤k_)∧some k_≠(.slice Ao27 t376.length co27:Value).ownBlock∧k_≠gb357)) (by (with_reducible repeat (first|apply Kd.V_alloc|apply Kd.V_drewN|apply Kd.V_drew));exact Kd.V_mono HO369.out (fun _ hk=>⟨⟨hk.1.1,⟨hk.2,hk.1.2.2⟩⟩,hk.1.2.1⟩)) hg hat);have n5_:=Aside0.mk (Kd.V_afterv (ok:=(fun k_=>(P0_4_ k_∨w.heap.size≤k_)∧some k_≠(.slice Ao27 t376.length co27:Value).ownBlock∧k_≠gb357)) (by (with_reducible repeat (first|apply Kd.V_alloc|apply Kd.V_drewN|apply Kd.V_drew));exact Kd.V_mono HO375.out (fun _ hk=>⟨⟨hk.1.1,⟨hk.2,hk.1.2.2⟩⟩,hk.1.2.1⟩)) hg hat);have n6_:=Aside0.mk (hb);have n7_:=Aside0.mk (ho);clear HO_5;clear HO_358004;clear BK357;clear HO363;clear HO369;clear HO375;clear HB;clear HO_3;clear HO378;have HO_5:=n0_;have HO_358004:=n1_;have BK357:=n2_;have HO363:=n3_;have HO369:=n4_;have HO375:=n5_;have HB:=n6_;have HO381:=n7_;clear n0_ n1_ n2_ n3_ n4_ n5_ n6_ n7_;clear ho hb hg hat;have q29:((ji19):Int)≤((x5_1.length:Int):Int):=of_decide_eq_true (by first|(with_reducible assumption)|assumption);obtain ⟨i029,hi029,_,hsz29,_⟩:=info_parts info9;have hroom29:x5_1.length≤co22:=(Kd.V_reads' HO_5.out).2.1;have hC29:Kd.F Kd.string _ _ Ao22 x5_1.length x5_1:=(Kd.V_at (base:=w.heap.size) HO_5.out).2.2;have q029:(0:Int)≤((ji19):Int):=of_decide_eq_true (by first|(with_reducible assumption)|assumption);have hcut29:=cut_from (P:=Tryd.prog) 33 9 .i64 Tryd.underlying33 hi029 1 hsz29 Ao22 x5_1.length co22 (ji19) q029 q29;have hr29:=Kd.F_cut (m:=((ji19):Int).toNat) (c:=co22) hC29 (by omega) hroom29;obtain ⟨A29,hA29⟩:∃ A1,A1=(if co22=((ji19):Int).toNat then Ao22 else (Ao22:Option Addr).map (·.add (((ji19):Int).toNat * 1))):=⟨_,rfl⟩;obtain ⟨c29,hc29⟩:∃ c1,c1=co22 - ((ji19):Int).toNat:=⟨_,rfl⟩;have hy29:y382.length=x5_1.length - ((ji19):Int).toNat:=(by rw [Ny382.out,List.length_drop]<;>omega);rw [show (x5_1).drop ((ji19):Int).toNat=y382 from Ny382.out.symm] at hr29;replace hr29:Kd.F Kd.string _ _ A29 y382.length y382:=(by rw [hA29];exact hr29);rw [← hy29,← hA29,← hc29] at hcut29;have HO386:=Aside0.mk (show Kd.V Kd.string 9 _ w.heap.size _ (.slice A29 y382.length c29) y382 from Kd.V_mk (by rw [hy29,hc29];exact Nat.sub_le_sub_right hroom29 _) hr29);have HC386:=Aside0.mk (show y382.length≤c29 from by rw [hy29,hc29];exact Nat.sub_le_sub_right hroom29 _);clear hr29 hC29 hroom29 hi029 hsz29 hc29;have KY29:=Aside0.mk hy29;have KA29:=Aside0.mk hA29;clear hy29 hA29;replace q29:=eq_true q29))
             go_roundg k1
             case measure=>have:=HK1.out;omega
             case rel=>exact ⟨(y379),(wrap64 (x4_1+(ji9))),(y382),(by first|rfl|(simp;done)|(simp only [← hji9]<;>(first|rfl|simp))|(simp [*];done)),H',⟨by have:=HK1.out;omega⟩,⟨by (with_reducible repeat (first|apply Kd.S_alloc|apply Kd.S_drewN|apply Kd.S_drew));exact HO381.out⟩,⟨by (with_reducible repeat (first|apply Kd.V_alloc|apply Kd.V_drewN|apply Kd.V_drew));exact Kd.V_mono HO386.out (fun _ hk=>⟨hk.1.1,⟨hk.2,hk.1.2.2⟩⟩)⟩,⟨by (with_reducible repeat (first|apply Kd.V_alloc|apply Kd.V_drewN|apply Kd.V_drew));exact Kd.V_mono HO_358004.out (fun _ hk=>⟨hk.1.1,⟨hk.2,hk.1.2.2⟩⟩)⟩,⟨by (with_reducible repeat (first|refine blk_drewN ?_ _|refine blk_drew ?_|refine blk_alloc ?_ _));exact BK357.out⟩,⟨by repeat (first|(with_reducible first|exact HB.out|apply below_alloc|apply pw_below_drewN|apply below_drew1|refine below_set ?_ GE357.out)|exact HB.out)⟩⟩
            ·rw [if_neg c20] at H
             exact absurd H (by simp)
           ·rw [if_neg c18] at H
            exact absurd H (by simp)
          ·rw [if_neg c16] at H
           exact absurd H (by simp)
         ·rw [if_neg c15] at H
          exact absurd H (by simp)
        ·rw [if_neg c13] at H
         have c13b0:decide (t358<(wrap64 ((ji9)+t370)))=false:=decide_eq_false c13
         clear c13
         try clear hji19w
         obtain ⟨ji30,hji30⟩:∃ j_:Int,(wrap64 ((ji9)+t370))=j_:=⟨_,rfl⟩
         replace H:(if 0≤(ji30) then (if (ji30)≤(x5_1.length:Int) then (hunk_Edits.l0 k1 x3_1 (wrap64 (x4_1+(ji9))) (x5_1.drop ((ji30):Int).toNat)) else (none)) else (none))=some r:=by first|(rw [hji30] at H;exact H)|(simp only [hji30] at H ⊢;exact H)
         (try rw [hji30] at c13b0)
         (try rw [hji30] at A5)
         (try rw [hji30] at A8)
         (try rw [hji30] at A12)
         have hji30w:(IntKind.i64.wrap ((ji9)+t370))=ji30:=(i64_w _).trans hji30
         by_cases c31:0≤(ji30)
         ·rw [if_pos c31] at H
          have c31b0:=eq_true c31
          have c31b1:decide (0≤(ji30))=true:=decide_eq_true c31
          clear c31
          by_cases c32:(ji30)≤(x5_1.length:Int)
          ·rw [if_pos c32] at H
           have c32b0:=eq_true c32
           have c32b1:decide ((ji30)≤(x5_1.length:Int))=true:=decide_eq_true c32
           clear c32
           obtain ⟨y387,hy387⟩:∃ y_:List ByteArray,y_=(x5_1.drop ((ji30):Int).toNat):=⟨_,rfl⟩
           replace H:(hunk_Edits.l0 k1 x3_1 (wrap64 (x4_1+(ji9))) y387)=some r:=by first|(rw [hy387];with_reducible exact H)|(have H2_:=(Option.bind_some _ _).symm.trans H;rw [hy387];with_reducible exact H2_)|(have H2_:=(Option.bind_some _ _).symm.trans H;with_reducible exact H2_)|with_reducible exact H|(rw [hy387];exact H)|exact H
           have Ny387:=Aside0.mk hy387
           clear hy387
           have H':=Aside0.mk H
           clear H
           obtain ⟨Ao33,co33,eo33⟩:=Kd.V_slice HO_5.out
           subst eo33
           go_wp2_with (first|((with_reducible refine gate_callee (f:=48) rfl ?_);refine goesL_ (some 17) rfl rfl Tryd.func48 (by kernel_rfl) rfl #[.slice Ao33 x5_1.length co33,.int .u8 32] rfl (by (try simp only [List.map_toArray,List.map_cons,List.map_nil]);first|done|rfl|(simp only [List.length_drop,List.length_take];rfl)) ?_;(with_reducible refine (hunk_run.calls k1 _ _ x5_1 32 t358 _ ?side1 ?side2 A5.out).mono ?_);(case side1=>repeat (first|exact (Kd.V_reads' HO_5.out).2.2|(with_reducible refine Kd.C_alloc ?_ _)|(with_reducible refine Kd.C_drewN ?_ _)|(with_reducible refine Kd.C_drew ?_)));(case side2=>exact (Kd.V_reads' HO_5.out).2.1);rintro e w' ⟨rfl,⟨nd,rfl⟩⟩;refine ⟨_,rfl,?_⟩;have q34:(t358:Int)≤((x5_1.length:Int):Int):=of_decide_eq_true (by first|(with_reducible assumption)|assumption);obtain ⟨i034,hi034,_,hsz34,_⟩:=info_parts info9;have hroom34:x5_1.length≤co33:=(Kd.V_reads' HO_5.out).2.1;have hC34:Kd.F Kd.string _ _ Ao33 x5_1.length x5_1:=(Kd.V_at (base:=w.heap.size) HO_5.out).2.2;have q034:(0:Int)≤(t358:Int):=of_decide_eq_true (by first|(with_reducible assumption)|assumption);have hcut34:=cut_from (P:=Tryd.prog) 33 9 .i64 Tryd.underlying33 hi034 1 hsz34 Ao33 x5_1.length co33 t358 q034 q34;have hr34:=Kd.F_cut (m:=(t358:Int).toNat) (c:=co33) hC34 (by omega) hroom34;obtain ⟨A34,hA34⟩:∃ A1,A1=(if co33=(t358:Int).toNat then Ao33 else (Ao33:Option Addr).map (·.add ((t358:Int).toNat * 1))):=⟨_,rfl⟩;obtain ⟨c34,hc34⟩:∃ c1,c1=co33 - (t358:Int).toNat:=⟨_,rfl⟩;have hy34:y359.length=x5_1.length - (t358:Int).toNat:=(by rw [Ny359.out,List.length_drop]<;>omega);rw [show (x5_1).drop (t358:Int).toNat=y359 from Ny359.out.symm] at hr34;replace hr34:Kd.F Kd.string _ _ A34 y359.length y359:=(by rw [hA34];exact hr34);rw [← hy34,← hA34,← hc34] at hcut34;have HO363:=Aside0.mk (show Kd.V Kd.string 9 _ w.heap.size _ (.slice A34 y359.length c34) y359 from Kd.V_mk (by rw [hy34,hc34];exact Nat.sub_le_sub_right hroom34 _) hr34);have HC363:=Aside0.mk (show y359.length≤c34 from by rw [hy34,hc34];exact Nat.sub_le_sub_right hroom34 _);clear hr34 hC34 hroom34 hi034 hsz34 hc34;have KY34:=Aside0.mk hy34;have KA34:=Aside0.mk hA34;clear hy34 hA34;replace q34:=eq_true q34)|((with_reducible refine gate_callee (f:=48) rfl ?_);refine goesL_ (some 22) rfl rfl Tryd.func48 (by kernel_rfl) rfl #[.slice A34 y359.length c34,.int .u8 45] rfl (by (try simp only [List.map_toArray,List.map_cons,List.map_nil]);first|done|rfl|(simp only [List.length_drop,List.length_take];rfl)) ?_;(with_reducible refine (hunk_run.calls k1 _ _ y359 45 t364 _ ?side1 ?side2 A8.out).mono ?_);(case side1=>repeat (first|exact (Kd.V_reads' HO363.out).2.2|(with_reducible refine Kd.C_alloc ?_ _)|(with_reducible refine Kd.C_drewN ?_ _)|(with_reducible refine Kd.C_drew ?_)));(case side2=>exact (Kd.V_reads' HO363.out).2.1);rintro e w' ⟨rfl,⟨nd,rfl⟩⟩;refine ⟨_,rfl,?_⟩;have q35:((ji9):Int)≤((x5_1.length:Int):Int):=of_decide_eq_true (by first|(with_reducible assumption)|assumption);obtain ⟨i035,hi035,_,hsz35,_⟩:=info_parts info9;have hroom35:x5_1.length≤co33:=(Kd.V_reads' HO_5.out).2.1;have hC35:Kd.F Kd.string _ _ Ao33 x5_1.length x5_1:=(Kd.V_at (base:=w.heap.size) HO_5.out).2.2;have q035:(0:Int)≤((ji9):Int):=of_decide_eq_true (by first|(with_reducible assumption)|assumption);have hcut35:=cut_from (P:=Tryd.prog) 33 9 .i64 Tryd.underlying33 hi035 1 hsz35 Ao33 x5_1.length co33 (ji9) q035 q35;have hr35:=Kd.F_cut (m:=((ji9):Int).toNat) (c:=co33) hC35 (by omega) hroom35;obtain ⟨A35,hA35⟩:∃ A1,A1=(if co33=((ji9):Int).toNat then Ao33 else (Ao33:Option Addr).map (·.add (((ji9):Int).toNat * 1))):=⟨_,rfl⟩;obtain ⟨c35,hc35⟩:∃ c1,c1=co33 - ((ji9):Int).toNat:=⟨_,rfl⟩;have hy35:y365.length=x5_1.length - ((ji9):Int).toNat:=(by rw [Ny365.out,List.length_drop]<;>omega);rw [show (x5_1).drop ((ji9):Int).toNat=y365 from Ny365.out.symm] at hr35;replace hr35:Kd.F Kd.string _ _ A35 y365.length y365:=(by rw [hA35];exact hr35);rw [← hy35,← hA35,← hc35] at hcut35;have HO369:=Aside0.mk (show Kd.V Kd.string 9 _ w.heap.size _ (.slice A35 y365.length c35) y365 from Kd.V_mk (by rw [hy35,hc35];exact Nat.sub_le_sub_right hroom35 _) hr35);have HC369:=Aside0.mk (show y365.length≤c35 from by rw [hy35,hc35];exact Nat.sub_le_sub_right hroom35 _);clear hr35 hC35 hroom35 hi035 hsz35 hc35;have KY35:=Aside0.mk hy35;have KA35:=Aside0.mk hA35;clear hy35 hA35;replace q35:=eq_true q35)|((with_reducible refine gate_callee (f:=48) rfl ?_);refine goesL_ (some 28) rfl rfl Tryd.func48 (by kernel_rfl) rfl #[.slice A35 y365.length c35,.int .u8 43] rfl (by (try simp only [List.map_toArray,List.map_cons,List.map_nil]);first|done|rfl|(simp only [List.length_drop,List.length_take];rfl)) ?_;(with_reducible refine (hunk_run.calls k1 _ _ y365 43 t370 _ ?side1 ?side2 A12.out).mono ?_);(case side1=>repeat (first|exact (Kd.V_reads' HO369.out).2.2|(with_reducible refine Kd.C_alloc ?_ _)|(with_reducible refine Kd.C_drewN ?_ _)|(with_reducible refine Kd.C_drew ?_)));(case side2=>exact (Kd.V_reads' HO369.out).2.1);rintro e w' ⟨rfl,⟨nd,rfl⟩⟩;refine ⟨_,rfl,?_⟩;have q36:((ji30):Int)≤((x5_1.length:Int):Int):=of_decide_eq_true (by first|(with_reducible assumption)|assumption);obtain ⟨i036,hi036,_,hsz36,_⟩:=info_parts info9;have hroom36:x5_1.length≤co33:=(Kd.V_reads' HO_5.out).2.1;have hC36:Kd.F Kd.string _ _ Ao33 x5_1.length x5_1:=(Kd.V_at (base:=w.heap.size) HO_5.out).2.2;have q036:(0:Int)≤((ji30):Int):=of_decide_eq_true (by first|(with_reducible assumption)|assumption);have hcut36:=cut_from (P:=Tryd.prog) 33 9 .i64 Tryd.underlying33 hi036 1 hsz36 Ao33 x5_1.length co33 (ji30) q036 q36;have hr36:=Kd.F_cut (m:=((ji30):Int).toNat) (c:=co33) hC36 (by omega) hroom36;obtain ⟨A36,hA36⟩:∃ A1,A1=(if co33=((ji30):Int).toNat then Ao33 else (Ao33:Option Addr).map (·.add (((ji30):Int).toNat * 1))):=⟨_,rfl⟩;obtain ⟨c36,hc36⟩:∃ c1,c1=co33 - ((ji30):Int).toNat:=⟨_,rfl⟩;have hy36:y387.length=x5_1.length - ((ji30):Int).toNat:=(by rw [Ny387.out,List.length_drop]<;>omega);rw [show (x5_1).drop ((ji30):Int).toNat=y387 from Ny387.out.symm] at hr36;replace hr36:Kd.F Kd.string _ _ A36 y387.length y387:=(by rw [hA36];exact hr36);rw [← hy36,← hA36,← hc36] at hcut36;have HO391:=Aside0.mk (show Kd.V Kd.string 9 _ w.heap.size _ (.slice A36 y387.length c36) y387 from Kd.V_mk (by rw [hy36,hc36];exact Nat.sub_le_sub_right hroom36 _) hr36);have HC391:=Aside0.mk (show y387.length≤c36 from by rw [hy36,hc36];exact Nat.sub_le_sub_right hroom36 _);clear hr36 hC36 hroom36 hi036 hsz36 hc36;have KY36:=Aside0.mk hy36;have KA36:=Aside0.mk hA36;clear hy36 hA36;replace q36:=eq_true q36))
           go_roundg k1
           case measure=>have:=HK1.out;omega
           case rel=>exact ⟨(x3_1),(wrap64 (x4_1+(ji9))),(y387),(by first|rfl|(simp;done)|(simp only [← hji9]<;>(first|rfl|simp))|(simp [*];done)),H',⟨by have:=HK1.out;omega⟩,⟨by (with_reducible repeat (first|apply Kd.S_alloc|apply Kd.S_drewN|apply Kd.S_drew));exact HO_3.out⟩,⟨by (with_reducible repeat (first|apply Kd.V_alloc|apply Kd.V_drewN|apply Kd.V_drew));exact HO391.out⟩,⟨by (with_reducible repeat (first|apply Kd.V_alloc|apply Kd.V_drewN|apply Kd.V_drew));exact HO_358004.out⟩,⟨by (with_reducible repeat (first|refine blk_drewN ?_ _|refine blk_drew ?_|refine blk_alloc ?_ _));exact BK357.out⟩,⟨by repeat (first|(with_reducible first|exact HB.out|apply below_alloc|apply pw_below_drewN|apply below_drew1|refine below_set ?_ GE357.out)|exact HB.out)⟩⟩
          ·rw [if_neg c32] at H
           exact absurd H (by simp)
         ·rw [if_neg c31] at H
          exact absurd H (by simp)
       ·rw [if_neg c11] at H
        exact absurd H (by simp)
      ·rw [if_neg c10] at H
       exact absurd H (by simp)
     ·rw [if_neg c7] at H
      exact absurd H (by simp)
    ·rw [if_neg c6] at H
     exact absurd H (by simp)
   ·rw [if_neg c4] at H
    have c4b0:decide (0<(x5_1.length:Int))=false:=decide_eq_false c4
    have c4b1:decide (0<x5_1.length)=false:=decide_eq_false (by omega)
    clear c4
    obtain rfl:=Option.some.inj H
    obtain ⟨Ao37,co37,eo37⟩:=Kd.V_slice HO_5.out
    subst eo37
    go_wp2
    go_ret
    exact ⟨_,by first|rfl|(simp [errW_none,errW_some]<;>rfl)|(simp [*,errW_none,errW_some]<;>rfl),by (with_reducible repeat (first|apply Kd.S_alloc|apply Kd.S_drewN|apply Kd.S_drew));exact HO_3.out,by repeat (first|(with_reducible first|exact HB.out|apply below_alloc|apply pw_below_drewN|apply below_drew1|refine below_set ?_ GE357.out)|exact HB.out)⟩


end Go.Proofs.YtamojbfmphainaaDoor.Pr
-- shrunk
/-
Lines of a hunk that are right, and how many they are, in plain Lean.
-/
namespace Go.Proofs.YtamojbfmphainaaDoor.Pr
open Go.RowKit Go.Proofs.YtamojbfmphainaaDoorW.PrintWords Go.Proofs.YtamojbfmphainaaDoorW.PrintLast Go.Proofs.YtamojbfmphainaaDoorW.PrintMore
def manyL (z:Int):List ByteArray→Nat
 | []=>0
 | s :: l=>(if 0<s.size∧(bt s 0=32∨bt s 0=z) then 1 else 0)+manyL z l
def okL (came:Bool):List ByteArray→Bool
 | []=>true
 | s :: l=>decide (0<s.size∧(bt s 0=32∨bt s 0=43∨bt s 0=45)∧¬ (bt s 0=45∧came=true)) && okL (decide (bt s 0=43)) l
theorem cntL_ok:∀ (l:List ByteArray) (came:Bool) (an bn:Int),(cntL came an bn l).2.2=okL came l∧(okL came l=true→cntL came an bn l=(an+manyL 45 l,bn+manyL 43 l,true))
 | [],came,an,bn=>⟨rfl,fun _=>by simp [cntL,manyL]⟩
 | s :: l,came,an,bn=>by
  rw [cntL,okL]
  by_cases h0:s.toList=([]:List UInt8)
  ·have hs:¬ 0<s.size:=by
    rw [nil_toList,toList_iff] at h0
    subst h0
    simp
   rw [if_pos h0,decide_eq_false (fun h=>hs h.1),Bool.false_and]
   exact ⟨rfl,fun h=>absurd h (by simp)⟩
  have hp:=ne_size h0
  rw [if_neg h0]
  by_cases h1:bt s 0=45∧came=true
  ·rw [if_pos h1,decide_eq_false (fun h=>h.2.2 h1),Bool.false_and]
   exact ⟨rfl,fun h=>absurd h (by simp)⟩
  rw [if_neg h1]
  by_cases b32:bt s 0=32
  ·have ih:=cntL_ok l false (an+1) (bn+1)
   rw [if_pos b32,decide_eq_true ⟨hp,Or.inl b32,h1⟩,Bool.true_and,decide_eq_false (by omega)]
   refine ⟨ih.1,fun h=>?_⟩
   rw [ih.2 h,manyL,manyL,if_pos ⟨hp,Or.inl b32⟩,if_pos ⟨hp,Or.inl b32⟩]
   congr 1
   ·push_cast;omega
   ·congr 1;push_cast;omega
  rw [if_neg b32]
  by_cases b43:bt s 0=43
  ·have ih:=cntL_ok l true an (bn+1)
   rw [if_pos b43,decide_eq_true ⟨hp,Or.inr (Or.inl b43),h1⟩,Bool.true_and,decide_eq_true b43]
   refine ⟨ih.1,fun h=>?_⟩
   rw [ih.2 h,manyL,manyL,if_neg (by rintro ⟨_,h|h⟩<;>omega),if_pos ⟨hp,Or.inr b43⟩,Nat.zero_add]
   congr 1
   congr 1;push_cast;omega
  rw [if_neg b43]
  by_cases b45:bt s 0=45
  ·have ih:=cntL_ok l false (an+1) bn
   rw [if_pos b45,decide_eq_true ⟨hp,Or.inr (Or.inr b45),h1⟩,Bool.true_and,decide_eq_false (by omega)]
   refine ⟨ih.1,fun h=>?_⟩
   rw [ih.2 h,manyL,manyL,if_pos ⟨hp,Or.inr b45⟩,if_neg (by rintro ⟨_,h|h⟩<;>omega),Nat.zero_add]
   congr 1
   push_cast;omega
  ·rw [if_neg b45,decide_eq_false (by rintro ⟨_,h|h|h,_⟩<;>omega),Bool.false_and]
   exact ⟨rfl,fun h=>absurd h (by simp)⟩
def rightL (A An B Bn:Int) (l:List ByteArray):Bool:=decide (okL false l=true∧0≤A∧0≤B∧An=manyL 45 l∧Bn=manyL 43 l)
theorem right_same (A An B Bn:Int) (l:List ByteArray):decide ((cntL false 0 0 l).2.2=true∧0≤A∧0≤B∧(cntL false 0 0 l).1=An∧(cntL false 0 0 l).2.1=Bn)=rightL A An B Bn l:=by
 have h:=cntL_ok l false 0 0
 unfold rightL
 rw [decide_eq_decide,h.1]
 constructor
 ·rintro ⟨h1,h2,h3,h4,h5⟩
  rw [h.2 h1] at h4 h5
  exact ⟨h1,h2,h3,by have h4':(0:Int)+(manyL 45 l:Int)=An:=h4;omega,by have h5':(0:Int)+(manyL 43 l:Int)=Bn:=h5;omega⟩
 ·rintro ⟨h1,h2,h3,h4,h5⟩
  rw [h.2 h1]
  exact ⟨h1,h2,h3,by show (0:Int)+(manyL 45 l:Int)=An;omega,by show (0:Int)+(manyL 43 l:Int)=Bn;omega⟩
end Go.Proofs.YtamojbfmphainaaDoor.Pr
-- shrunk
-- written by a program of this session's (a turned copy of the kit's printer); Lean checks it
namespace Go.Proofs.YtamojbfmphainaaDoor.Pr
open Go.RowKit Go.Proofs.YtamojbfmphainaaDoorW.PrintWords Go.Proofs.YtamojbfmphainaaDoorW.PrintLast Go.Proofs.YtamojbfmphainaaDoorW.PrintMore
attribute [local go_sem] max2_int min2_int max_two min_two max_three min_three max_four min_four   -- for this text's walks alone

def r05_Many.l0:Nat→List ByteArray→Int→Int→Int→Option (Int)
 | 0,_,_,_,_=>none
 | k+1,x0,x1,x5,x6=>if x6<(x0.length:Int) then (if 0≤x6 then (if ((rdOf ByteArray.empty x0 x6).size:Int) > 0 then (if 0<((rdOf ByteArray.empty x0 x6).size:Int) then (if (bt (rdOf ByteArray.empty x0 x6) 0)=32 then (r05_Many.l0 k x0 x1 (wrap64 (x5+1)) (wrap64 (x6+1))) else (if (bt (rdOf ByteArray.empty x0 x6) 0)=x1 then (r05_Many.l0 k x0 x1 (wrap64 (x5+1)) (wrap64 (x6+1))) else (r05_Many.l0 k x0 x1 x5 (wrap64 (x6+1))))) else (none)) else (r05_Many.l0 k x0 x1 x5 (wrap64 (x6+1)))) else (none)) else (some x5)
def r05_Many.f (k:Nat) (l0:List ByteArray) (a1:Int):Option (Int):=r05_Many.l0 k l0 a1 0 0
end Go.Proofs.YtamojbfmphainaaDoor.Pr
-- shrunk
-- written by a program of this session's (a turned copy of the kit's printer); Lean checks it
namespace Go.Proofs.YtamojbfmphainaaDoor.Pr
open Go.RowKit Go.Proofs.YtamojbfmphainaaDoorW.PrintWords Go.Proofs.YtamojbfmphainaaDoorW.PrintLast Go.Proofs.YtamojbfmphainaaDoorW.PrintMore
attribute [local go_sem] max2_int min2_int max_two min_two max_three min_three max_four min_four   -- for this text's walks alone

mutual
def r05_Right.l0:Nat→Int→Int→Int→Int→Int→List ByteArray→Option (Bool)
 | 0,_,_,_,_,_,_=>none
 | k+1,x3,x166000,x166001,x166002,x166003,x166004=>if x3<(x166004.length:Int) then (if 0≤x3 then (if ((rdOf ByteArray.empty x166004 x3).size:Int)=0 then (some false) else (if 0<((rdOf ByteArray.empty x166004 x3).size:Int) then (if (bt (rdOf ByteArray.empty x166004 x3) 0)=32 then (r05_Right.j1 k x3 (rdOf ByteArray.empty x166004 x3) false x166000 x166001 x166002 x166003 x166004) else (if (bt (rdOf ByteArray.empty x166004 x3) 0)=43 then (r05_Right.j1 k x3 (rdOf ByteArray.empty x166004 x3) false x166000 x166001 x166002 x166003 x166004) else (r05_Right.j1 k x3 (rdOf ByteArray.empty x166004 x3) ((bt (rdOf ByteArray.empty x166004 x3) 0) != 45) x166000 x166001 x166002 x166003 x166004))) else (none))) else (none)) else (if x166000 ≥ 0 then (if x166002 ≥ 0 then ((r05_Many.f k x166004 45).bind fun t166=>(if x166001=t166 then ((r05_Many.f k x166004 43).bind fun t167=>(some (x166003 == t167))) else (some false))) else (some false)) else (some false))
def r05_Right.j1:Nat→Int→ByteArray→Bool→Int→Int→Int→Int→List ByteArray→Option (Bool)
 | 0,_,_,_,_,_,_,_,_=>none
 | k+1,x3,x4,x32,x166000,x166001,x166002,x166003,x166004=>if x32=true then (some false) else (if x3 > 0 then (if 0<(x4.size:Int) then (if (bt x4 0)=45 then (if 0≤(wrap64 (x3 - 1)) then (if (wrap64 (x3 - 1))<(x166004.length:Int) then (if 0<((rdOf ByteArray.empty x166004 (wrap64 (x3 - 1))).size:Int) then (if (bt (rdOf ByteArray.empty x166004 (wrap64 (x3 - 1))) 0)=43 then (some false) else (r05_Right.l0 k (wrap64 (x3+1)) x166000 x166001 x166002 x166003 x166004)) else (none)) else (none)) else (none)) else (r05_Right.l0 k (wrap64 (x3+1)) x166000 x166001 x166002 x166003 x166004)) else (none)) else (r05_Right.l0 k (wrap64 (x3+1)) x166000 x166001 x166002 x166003 x166004))
end
end Go.Proofs.YtamojbfmphainaaDoor.Pr
-- shrunk
/-
What layer 6 needs of hunks that are right: package hunk's Right, and the document's.
-/
namespace Go.Proofs.YtamojbfmphainaaDoor.Pr
open Go.RowKit Go.Proofs.YtamojbfmphainaaDoorW.PrintWords Go.Proofs.YtamojbfmphainaaDoorW.PrintLast Go.Proofs.YtamojbfmphainaaDoorW.PrintMore
theorem HRight_ev (A An B Bn:Int) (l:List ByteArray) (hn:l.length≤1099511627776) :
  Ev (fun k=>hunk_Right.f k A An B Bn l) (decide ((cntL false 0 0 l).2.2=true∧0≤A∧0≤B∧(cntL false 0 0 l).1=An∧(cntL false 0 0 l).2.1=Bn)):=by
 unfold hunk_Right.f
 refine Ev.bind (count_ev l hn) ?_
 generalize cntL false 0 0 l=c
 by_cases h1:c.2.2=true
 ·simp only [if_pos h1]
  by_cases h2:A ≥ 0
  ·simp only [if_pos h2]
   by_cases h3:B ≥ 0
   ·simp only [if_pos h3]
    by_cases h4:c.1=An
    ·simp only [if_pos h4]
     have e:(c.2.1 == Bn)=decide (c.2.2=true∧0≤A∧0≤B∧c.1=An∧c.2.1=Bn):=by
      rw [Bool.eq_iff_iff,beq_iff_eq,decide_eq_true_iff];exact ⟨fun h=>⟨h1,h2,h3,h4,h⟩,fun h=>h.2.2.2.2⟩
     rw [e];exact Ev.now _
    ·simp only [if_neg h4]
     rw [decide_eq_false (fun h=>h4 h.2.2.2.1)];exact Ev.now _
   ·simp only [if_neg h3]
    rw [decide_eq_false (fun h=>h3 h.2.2.1)];exact Ev.now _
  ·simp only [if_neg h2]
   rw [decide_eq_false (fun h=>h2 h.2.1)];exact Ev.now _
 ·simp only [if_neg h1]
  rw [decide_eq_false (fun h=>h1 h.1)];exact Ev.now _
end Go.Proofs.YtamojbfmphainaaDoor.Pr
-- shrunk
/-
Lines of a hunk as blocks: lines that stay, lines that go, lines that come; what count, run, Edits and Turn make of them.
-/
namespace Go.Proofs.YtamojbfmphainaaDoor.Pr
open Go.RowKit Go.Proofs.YtamojbfmphainaaDoorW.PrintWords Go.Proofs.YtamojbfmphainaaDoorW.PrintLast Go.Proofs.YtamojbfmphainaaDoorW.PrintMore
structure Blk where
 k:List ByteArray
 d:List ByteArray
 i:List ByteArray
def blkLines:List Blk→List ByteArray→List ByteArray
 | [],t=>sgs 32 t
 | b :: bs,t=>sgs 32 b.k++(sgs 45 b.d++(sgs 43 b.i++blkLines bs t))
def BOk:Bool→List Blk→Prop
 | _,[]=>True
 | f,b :: bs=>(b.d≠[]∨b.i≠[])∧(f=true∨b.k≠[])∧BOk false bs
def oldN:List Blk→Nat
 | []=>0
 | b :: bs=>b.k.length+b.d.length+oldN bs
def newN:List Blk→Nat
 | []=>0
 | b :: bs=>b.k.length+b.i.length+newN bs
def edB (at_:Int):List Blk→List Ed
 | []=>[]
 | b :: bs=>⟨at_+b.k.length,(b.d.length:Int),b.i⟩ :: edB (at_+b.k.length+b.d.length) bs
theorem blkLines_len:∀ (bs:List Blk) (t:List ByteArray),(blkLines bs t).length≤oldN bs+newN bs+t.length
 | [],t=>by simp [blkLines,sgs_len,oldN,newN]
 | b :: bs,t=>by
  have:=blkLines_len bs t
  simp only [blkLines,List.length_append,sgs_len,oldN,newN];omega
theorem blkLines_size:∀ (bs:List Blk) (t:List ByteArray),∀ s ∈ blkLines bs t,1≤s.size
 | [],t,s,h=>by
  simp only [blkLines,sgs,List.mem_map] at h
  obtain ⟨x,_,rfl⟩:=h
  rw [sg_size];omega
 | b :: bs,t,s,h=>by
  simp only [blkLines,List.mem_append] at h
  have hm:∀ (c:UInt8) (l:List ByteArray),s ∈ sgs c l→1≤s.size:=by
   intro c l h
   simp only [sgs,List.mem_map] at h
   obtain ⟨x,_,rfl⟩:=h
   rw [sg_size];omega
  rcases h with h|h|h|h
  ·exact hm _ _ h
  ·exact hm _ _ h
  ·exact hm _ _ h
  ·exact blkLines_size bs t s h
theorem run_tail (z:Int) (hz:z≠32):∀ (bs:List Blk) (t:List ByteArray),BOk false bs→runLen z (blkLines bs t)=0
 | [],[],_=>rfl
 | [],s :: t,_=>by
  have h:=runLen_other 32 z (by intro e;exact hz e.symm) (s :: t) [] (by simp)
  simpa [blkLines] using h
 | b :: bs,t,h=>by
  rcases h.2.1 with h1|h1
  ·exact absurd h1 (by simp)
  ·exact runLen_other 32 z (by intro e;exact hz e.symm) _ _ h1
theorem run_32 (f:Bool) (b:Blk) (bs:List Blk) (t:List ByteArray) (h:BOk f (b :: bs)):runLen 32 (blkLines (b :: bs) t)=b.k.length:=by
 rw [blkLines,runLen_same 32 32 rfl]
 by_cases hd:b.d=[]
 ·have hi:b.i≠[]:=by rcases h.1 with h1|h1<;>simp_all
  rw [hd]
  show _+runLen 32 (sgs 43 b.i++_)=_
  rw [runLen_other 43 32 (by decide) _ _ hi];rfl
 ·rw [runLen_other 45 32 (by decide) _ _ hd];rfl
theorem run_45 (f:Bool) (b:Blk) (bs:List Blk) (t:List ByteArray) (h:BOk f (b :: bs)):runLen 45 (sgs 45 b.d++(sgs 43 b.i++blkLines bs t))=b.d.length:=by
 rw [runLen_same 45 45 rfl]
 by_cases hi:b.i=[]
 ·rw [hi]
  show _+runLen 45 (blkLines bs t)=_
  rw [run_tail 45 (by decide) bs t h.2.2];rfl
 ·rw [runLen_other 43 45 (by decide) _ _ hi];rfl
theorem run_43 (f:Bool) (b:Blk) (bs:List Blk) (t:List ByteArray) (h:BOk f (b :: bs)):runLen 43 (sgs 43 b.i++blkLines bs t)=b.i.length:=by
 rw [runLen_same 43 43 rfl,run_tail 43 (by decide) bs t h.2.2];rfl
theorem cntL_32:∀ (l:List ByteArray) (came:Bool) (an bn:Int) (R:List ByteArray),cntL came an bn (sgs 32 l++R)=cntL (if l=[] then came else false) (an+l.length) (bn+l.length) R
 | [],came,an,bn,R=>by simp [sgs]
 | s :: l,came,an,bn,R=>by
  have h:=cntL_32 l false (an+1) (bn+1) R
  show cntL came an bn (sg 32 s :: (sgs 32 l++R))=_
  rw [cntL,if_neg (sg_toList _ _),sg_bt,if_neg (by rintro ⟨h,_⟩;exact absurd h (by decide)),if_pos (by rfl),h]
  simp only [ite_self,if_neg (show ¬ (s :: l=[]) by simp),List.length_cons]
  congr 1<;>(push_cast;omega)
theorem cntL_45:∀ (l:List ByteArray) (an bn:Int) (R:List ByteArray),cntL false an bn (sgs 45 l++R)=cntL false (an+l.length) bn R
 | [],an,bn,R=>by simp [sgs]
 | s :: l,an,bn,R=>by
  have h:=cntL_45 l (an+1) bn R
  show cntL false an bn (sg 45 s :: (sgs 45 l++R))=_
  rw [cntL,if_neg (sg_toList _ _),sg_bt,if_neg (by rintro ⟨_,h⟩;exact absurd h (by decide)),if_neg (by decide),if_neg (by decide),if_pos (by rfl),h,List.length_cons]
  congr 1;push_cast;omega
theorem cntL_43:∀ (l:List ByteArray) (came:Bool) (an bn:Int) (R:List ByteArray),cntL came an bn (sgs 43 l++R)=cntL (if l=[] then came else true) an (bn+l.length) R
 | [],came,an,bn,R=>by simp [sgs]
 | s :: l,came,an,bn,R=>by
  have h:=cntL_43 l true an (bn+1) R
  show cntL came an bn (sg 43 s :: (sgs 43 l++R))=_
  rw [cntL,if_neg (sg_toList _ _),sg_bt,if_neg (by rintro ⟨h,_⟩;exact absurd h (by decide)),if_neg (by decide),if_pos (by rfl),h]
  simp only [ite_self,if_neg (show ¬ (s :: l=[]) by simp),List.length_cons]
  congr 1;push_cast;omega
theorem cntL_blk:∀ (bs:List Blk) (t:List ByteArray) (f came:Bool) (an bn:Int),BOk f bs→(f=true→came=false) →
  cntL came an bn (blkLines bs t)=(an+oldN bs+t.length,bn+newN bs+t.length,true)
 | [],t,f,came,an,bn,h,hf=>by
  have e:=cntL_32 t came an bn []
  rw [List.append_nil] at e
  simp only [blkLines,e,cntL,oldN,newN]
  congr 1
  ·push_cast;omega
  ·congr 1;push_cast;omega
 | b :: bs,t,f,came,an,bn,h,hf=>by
  have hc:(if b.k=[] then came else false)=false:=by
   by_cases hk:b.k=[]
   ·rw [if_pos hk]
    rcases h.2.1 with h1|h1
    ·exact hf h1
    ·exact absurd hk h1
   ·rw [if_neg hk]
  rw [blkLines,cntL_32,hc,cntL_45,cntL_43,cntL_blk bs t false _ _ _ h.2.2 (by simp)]
  simp only [oldN,newN]
  congr 1
  ·push_cast;omega
  ·congr 1;push_cast;omega
theorem drop_sgs (c:UInt8) (l R:List ByteArray) (n:Nat) (h:n=l.length):(sgs c l++R).drop n=R:=by
 subst h;rw [List.drop_append_of_le_length (by rw [sgs_len];exact Nat.le_refl _),List.drop_of_length_le (by rw [sgs_len];exact Nat.le_refl _)];rfl
theorem take_sgs (c:UInt8) (l R:List ByteArray) (n:Nat) (h:n=l.length):(sgs c l++R).take n=sgs c l:=by
 subst h;rw [List.take_append_of_le_length (by rw [sgs_len];exact Nat.le_refl _),List.take_of_length_le (by rw [sgs_len];exact Nat.le_refl _)]
structure Cut3 (x:List ByteArray) (b:Blk) (R:List ByteArray):Prop where
 len:0<x.length
 n:runLen 32 x=b.k.length
 d:runLen 45 (x.drop b.k.length)=b.d.length
 i:runLen 43 (x.drop (b.k.length+b.d.length))=b.i.length
 tk:x.take b.k.length=sgs 32 b.k
 td:(x.take (b.k.length+b.d.length)).drop b.k.length=sgs 45 b.d
 ti:(x.take (b.k.length+b.d.length+b.i.length)).drop (b.k.length+b.d.length)=sgs 43 b.i
 tr:x.drop (b.k.length+b.d.length+b.i.length)=R
 le:b.k.length+b.d.length+b.i.length≤x.length
theorem cut3_parts (b:Blk) (R:List ByteArray) (hl:0<(sgs 32 b.k++(sgs 45 b.d++(sgs 43 b.i++R))).length)
  (h1:runLen 32 (sgs 32 b.k++(sgs 45 b.d++(sgs 43 b.i++R)))=b.k.length) (h2:runLen 45 (sgs 45 b.d++(sgs 43 b.i++R))=b.d.length) (h3:runLen 43 (sgs 43 b.i++R)=b.i.length) :
  Cut3 (sgs 32 b.k++(sgs 45 b.d++(sgs 43 b.i++R))) b R:=by
 have d1:=drop_sgs 32 b.k (sgs 45 b.d++(sgs 43 b.i++R)) _ rfl
 have d2:=drop_sgs 45 b.d (sgs 43 b.i++R) _ rfl
 have d3:=drop_sgs 43 b.i R _ rfl
 refine ⟨hl,h1,by rw [d1];exact h2,by rw [← List.drop_drop,d1,d2];exact h3,take_sgs _ _ _ _ rfl,?_,?_,?_,?_⟩
 ·rw [List.drop_take,d1,show b.k.length+b.d.length - b.k.length=b.d.length by omega,take_sgs _ _ _ _ rfl]
 ·rw [List.drop_take,← List.drop_drop,d1,d2,show b.k.length+b.d.length+b.i.length - (b.k.length+b.d.length)=b.i.length by omega,take_sgs _ _ _ _ rfl]
 ·rw [Nat.add_assoc,← List.drop_drop,d1,← List.drop_drop,d2,d3]
 ·simp only [List.length_append,sgs_len];omega
theorem cut3_blk (f:Bool) (b:Blk) (bs:List Blk) (t:List ByteArray) (h:BOk f (b :: bs)):Cut3 (blkLines (b :: bs) t) b (blkLines bs t):=by
 have h1:=run_32 f b bs t h
 rw [blkLines] at h1 ⊢
 refine cut3_parts b _ ?_ h1 (run_45 f b bs t h) (run_43 f b bs t h)
 simp only [List.length_append,sgs_len]
 rcases h.1 with h2|h2
 ·have:=List.length_pos_iff.2 h2;omega
 ·have:=List.length_pos_iff.2 h2;omega
theorem cut3_end (s:ByteArray) (t:List ByteArray):Cut3 (blkLines [] (s :: t)) ⟨s :: t,[],[]⟩ []:=by
 have h:=cut3_parts ⟨s :: t,[],[]⟩ [] (by simp [sgs]) (by
  show runLen 32 (sgs 32 (s :: t)++[])=_
  rw [runLen_same 32 32 rfl];rfl) rfl rfl
 simpa [blkLines,sgs] using h
theorem Edits_cut (x R:List ByteArray) (b:Blk) (hx:x.length≤1099511627776) (hs:∀ s ∈ x,1≤s.size) (h:Cut3 x b R) (out:List Ed) (at_:Int) (ha0:0≤at_) (ha:at_≤4398046511104) (ho:out.length≤1099511627776) (r:List Ed)
  (rest:Ev (fun k=>hunk_Edits.l0 k (if b.d=[]∧b.i=[] then out else out++[⟨at_+b.k.length,(b.d.length:Int),b.i⟩]) (at_+b.k.length+b.d.length) R) r):Ev (fun k=>hunk_Edits.l0 k out at_ x) r:=by
 refine Ev.step (fun _=>hunk_Edits.l0.eq_2 ..) ?_
 have hle:=h.le
 simp only [if_pos (show (x.length:Int) > 0 by have:=h.len;omega)]
 have hsd:∀ n,∀ s ∈ x.drop n,1≤s.size:=fun n s hm=>hs s (List.mem_of_mem_drop hm)
 refine Ev.bind (run_ev x 32 hs (by omega)) ?_
 rw [h.n]
 simp only [if_pos (show 0≤(b.k.length:Int) by omega),if_pos (show (b.k.length:Int)≤(x.length:Int) by omega),Int.toNat_natCast]
 refine Ev.bind (run_ev _ 45 (hsd _) (by rw [List.length_drop];omega)) ?_
 rw [h.d]
 have w1:wrap64 ((b.k.length:Int)+(b.d.length:Int))=((b.k.length+b.d.length:Nat):Int):=by rw [w_in (by omega) (by omega)];push_cast;rfl
 have w2:wrap64 (((b.k.length+b.d.length:Nat):Int)+(b.i.length:Int))=((b.k.length+b.d.length+b.i.length:Nat):Int):=by rw [w_in (by omega) (by omega)];push_cast;rfl
 have w3:wrap64 (at_+(b.k.length:Int))=at_+b.k.length:=w_in (by omega) (by omega)
 have w4:wrap64 (((b.k.length+b.d.length:Nat):Int) - (b.k.length:Int))=(b.d.length:Int):=by rw [w_in (by omega) (by omega)];omega
 have w5:wrap64 (at_+((b.k.length+b.d.length:Nat):Int))=at_+b.k.length+b.d.length:=by rw [w_in (by omega) (by omega)];omega
 simp only [w1,if_pos (show 0≤((b.k.length+b.d.length:Nat):Int) by omega),if_pos (show ((b.k.length+b.d.length:Nat):Int)≤(x.length:Int) by omega),Int.toNat_natCast]
 refine Ev.bind (run_ev _ 43 (hsd _) (by rw [List.length_drop];omega)) ?_
 rw [h.i]
 simp only [w2,w3,w4,w5]
 by_cases he:b.d=[]∧b.i=[]
 ·have e1:b.d.length=0:=by rw [he.1];rfl
  have e2:b.i.length=0:=by rw [he.2];rfl
  simp only [if_neg (show ¬ ((b.k.length+b.d.length+b.i.length:Nat):Int) > (b.k.length:Int) by omega),if_pos (show 0≤((b.k.length+b.d.length+b.i.length:Nat):Int) by omega),if_pos (show ((b.k.length+b.d.length+b.i.length:Nat):Int)≤(x.length:Int) by omega),Int.toNat_natCast]
  rw [if_pos he] at rest
  rw [h.tr]
  exact rest
 ·have hpos:0<b.d.length+b.i.length:=by
   rcases Nat.eq_zero_or_pos (b.d.length+b.i.length) with h0|h0
   ·exact absurd ⟨List.eq_nil_of_length_eq_zero (by omega),List.eq_nil_of_length_eq_zero (by omega)⟩ he
   ·exact h0
  simp only [if_pos (show ((b.k.length+b.d.length+b.i.length:Nat):Int) > (b.k.length:Int) by omega),if_pos (show ((b.k.length+b.d.length:Nat):Int)≤((b.k.length+b.d.length+b.i.length:Nat):Int) by omega),
   if_pos (show ((b.k.length+b.d.length+b.i.length:Nat):Int)≤(x.length:Int) by omega),Int.toNat_natCast]
  rw [h.ti]
  refine Ev.bind (bare_ev (sgs 43 b.i) (fun s hm=>?_) (by rw [sgs_len];omega)) ?_
  ·simp only [sgs,List.mem_map] at hm
   obtain ⟨y,_,rfl⟩:=hm
   rw [sg_size];omega
  ·rw [sgs_map_tl]
   simp only [if_pos (show out.length<3518437208883 by omega),if_pos (show 0≤((b.k.length+b.d.length+b.i.length:Nat):Int) by omega)]
   rw [if_neg he] at rest
   rw [h.tr]
   exact rest
theorem Edits_blk:∀ (bs:List Blk) (t:List ByteArray) (f:Bool) (out:List Ed) (at_:Int),BOk f bs→0≤at_→at_+oldN bs≤4398046511104→oldN bs+newN bs+t.length≤1099511627776→out.length+bs.length≤1099511627776 →
  Ev (fun k=>hunk_Edits.l0 k out at_ (blkLines bs t)) (out++edB at_ bs)
 | [],[],f,out,at_,h,h0,h1,h2,h3=>by
  refine Ev.step (fun _=>hunk_Edits.l0.eq_2 ..) ?_
  simp [blkLines,sgs,edB]
  exact Ev.now _
 | [],s :: t,f,out,at_,h,h0,h1,h2,h3=>by
  have hl:=blkLines_len [] (s :: t)
  simp only [oldN,newN] at h1 h2 hl
  refine Edits_cut _ _ _ (by omega) (blkLines_size _ _) (cut3_end s t) out at_ h0 (by omega) (by omega) _ ?_
  rw [if_pos ⟨rfl,rfl⟩]
  refine Ev.step (fun _=>hunk_Edits.l0.eq_2 ..) ?_
  simp [edB]
  exact Ev.now _
 | b :: bs,t,f,out,at_,h,h0,h1,h2,h3=>by
  have hl:=blkLines_len (b :: bs) t
  have hn:¬ (b.d=[]∧b.i=[]):=fun e=>by rcases h.1 with h1|h1<;>simp_all
  simp only [oldN,newN,List.length_cons] at h1 h2 h3 hl
  refine Edits_cut _ _ _ (by omega) (blkLines_size _ _) (cut3_blk f b bs t h) out at_ h0 (by omega) (by omega) _ ?_
  rw [if_neg hn]
  have ih:=Edits_blk bs t false (out++[⟨at_+b.k.length,(b.d.length:Int),b.i⟩]) (at_+b.k.length+b.d.length) h.2.2 (by omega) (by omega) (by omega) (by rw [List.length_append,List.length_singleton];omega)
  rw [List.append_assoc] at ih
  exact ih
theorem Edits_ev (A An B Bn:Int) (bs:List Blk) (t:List ByteArray) (h:BOk true bs) (h0:0≤A) (h1:A+oldN bs≤4398046511104) (h2:oldN bs+newN bs+t.length≤1099511627776) (h3:bs.length≤1099511627776) :
  Ev (fun k=>hunk_Edits.f k A An B Bn (blkLines bs t)) (edB A bs):=by
 have e:=Edits_blk bs t true [] A h h0 h1 h2 (by simpa using h3)
 exact e
def blkBig:List Blk→Prop
 | []=>True
 | b :: bs=>(∀ s ∈ b.d++b.i,s.size≤4611686018427387904)∧blkBig bs
end Go.Proofs.YtamojbfmphainaaDoor.Pr
-- shrunk
/-
Several plain texts in one.
-/
namespace Go.Proofs.YtamojbfmphainaaDoor.Pr
open Go.RowKit Go.Proofs.YtamojbfmphainaaDoorW.PrintWords Go.Proofs.YtamojbfmphainaaDoorW.PrintLast Go.Proofs.YtamojbfmphainaaDoorW.PrintMore
def insE:List Ed→Nat
 | []=>0
 | e :: l=>e.f2.length+insE l
def playFrom (a:List ByteArray) (t:Nat):List Ed→List ByteArray
 | []=>a.drop t
 | e :: l=>(a.take e.f0.toNat).drop t++e.f2++playFrom a (e.f0+e.f1).toNat l
def turnFrom (a:List ByteArray) (more:Int):List Ed→List Ed
 | []=>[]
 | e :: l=>⟨e.f0+more,(e.f2.length:Int),(a.take (e.f0+e.f1).toNat).drop e.f0.toNat⟩ :: turnFrom a (more+((e.f2.length:Int) - e.f1)) l
theorem okFrom_cons {fr many:Int} {e:Ed} {l:List Ed} (h:okFrom fr many (e :: l)=true) :
  fr≤e.f0∧0≤e.f1∧e.f0≤many∧e.f1≤many - e.f0∧¬ (e.f1=0∧e.f2=[])∧okFrom (e.f0+e.f1+1) many l=true:=by
 simp only [okFrom,Bool.and_eq_true,decide_eq_true_eq] at h
 exact ⟨h.1.1,h.1.2.1,h.1.2.2.1,h.1.2.2.2.1,h.1.2.2.2.2,h.2⟩
end Go.Proofs.YtamojbfmphainaaDoor.Pr
-- shrunk
