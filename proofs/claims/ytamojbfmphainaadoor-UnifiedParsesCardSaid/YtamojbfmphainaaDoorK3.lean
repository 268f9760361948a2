/-
Several plain texts in one.
-/
import Derived.Test.YtamojbfmphainaaDoorK0
import Derived.Test.YtamojbfmphainaaDoorK2
import Derived.Test.YtamojbfmphainaaDoorK1
import Derived.Outline
import Derived.Lib.IndexMore
import Derived.Lib.ItoaNum
set_option linter.unusedVariables false
set_option linter.unusedSimpArgs false
-- written by a program of this session's (a turned copy of the kit's printer); Lean checks it
namespace Go.Proofs.YtamojbfmphainaaDoor.Pr
open Go.RowKit Go.Proofs.YtamojbfmphainaaDoorW.PrintWords Go.Proofs.YtamojbfmphainaaDoorW.PrintLast Go.Proofs.YtamojbfmphainaaDoorW.PrintMore
attribute [local go_sem] max2_int min2_int max_two min_two max_three min_three max_four min_four   -- for this text's walks alone

def r05_Same.l0:Nat→List (S41)→List (S41)→Int→Option (Bool)
 | 0,_,_,_=>none
 | k+1,x0,x1,x5=>if x5<(x0.length:Int) then (if 0≤x5 then (if x5<(x1.length:Int) then ((r05_One.f k ((rd_T41 x0 x5).f0) ((rd_T41 x0 x5).f1) ((rd_T41 x0 x5).f2) ((rd_T41 x0 x5).f3) ((rd_T41 x0 x5).f4) ((rd_T41 x1 x5).f0) ((rd_T41 x1 x5).f1) ((rd_T41 x1 x5).f2) ((rd_T41 x1 x5).f3) ((rd_T41 x1 x5).f4)).bind fun t148=>(if t148=true then (r05_Same.l0 k x0 x1 (wrap64 (x5+1))) else (some false))) else (none)) else (none)) else (some true)
def r05_Same.f (k:Nat) (l0:List (S41)) (l1:List (S41)):Option (Bool):=if (l0.length:Int)=(l1.length:Int) then (r05_Same.l0 k l0 l1 0) else (some false)
def r05_Same.T6:Bool × List (List Nat × List Nat):=(true,[([],[]),([],[]),([0,1],[0,1]),([2],[2]),([],[]),([],[]),([4,5],[4,5]),([6],[6]),([3,7],[3,7]),([8,8,0,1,2,3,4,5,6,7,8],[8])])
def r05_Same.B6:List Nat:=[0,0,3,7,0,0,48,112,255,511]
theorem r05_Same.tab6:rtab .any (opsOf Tryd.f14 6)=r05_Same.T6:=by kernel_rfl
theorem r05_Same.bits6:waitsOk r05_Same.T6.2 r05_Same.B6=true:=by kernel_rfl
set_option maxHeartbeats 8000000 in
set_option maxRecDepth 100000 in
theorem r05_Same.calls (k:Nat) (A0:Option Addr) (c0:Nat) (l0:List (S41)) (A1:Option Addr) (c1:Nat) (l1:List (S41)) (r:Bool) (w:World) (hr0:Kd.C k41 w A0 l0.length l0) (hc0:l0.length≤c0) (hr1:Kd.C k41 w A1 l1.length l1) (hc1:l1.length≤c1) (h:r05_Same.f k l0 l1=some r) :
  Calls Tryd.prog 14 #[.slice A0 l0.length c0,.slice A1 l1.length c1] w fun e w'=>e=.returned (.bool r)∧Below w.heap.size w w':=by
 have hu41:=Tryd.underlying41
 have HR0:=Aside0.mk hr0
 have HC0:=Aside0.mk hc0
 clear hr0 hc0
 have HR1:=Aside0.mk hr1
 have HC1:=Aside0.mk hc1
 clear hr1 hc1
 have HB:=Aside0.mk (Below.refl w.heap.size w)
 have H:(if (l0.length:Int)=(l1.length:Int) then (r05_Same.l0 k l0 l1 0) else (some false))=some r:=h
 clear h
 by_cases c3:(l0.length:Int)=(l1.length:Int)
 ·rw [if_pos c3] at H
  have c3b0:((l0.length:Int) == (l1.length:Int))=true:=beq_iff_eq.mpr c3
  have c3b1:((l0.length:Int) != (l1.length:Int))=false:=bne_eq_false_iff_eq.mpr c3
  have c3b2:(l0.length == l1.length)=true:=by first|simpa using c3|(simp at c3 ⊢;omega)
  clear c3
  have H':=Aside0.mk H
  clear H
  go_enter Tryd.func14,Tryd.ntmps14
  go_wp2
  go_loopg [5] k (fun kq v5 w'=>∃ (x5_1:Int),v5=.int .i64 x5_1∧Aside0 (r05_Same.l0 kq l0 l1 x5_1=some r)∧Aside0 (kq≤k)∧Aside0 (Below w.heap.size w w'))
  case atStart=>exact ⟨(0),(by first|rfl|(simp;done)|(simp [*];done)),H',⟨Nat.le_refl _⟩,⟨by repeat (first|(with_reducible first|exact HB.out|apply below_alloc|apply pw_below_drewN|apply below_drew1)|exact HB.out)⟩⟩
  case round =>
   clear H'
   try clear c1
   try clear p2
   try clear c3
   try clear c3b0
   try clear c3b1
   try clear c3b2
   obtain ⟨x5_1,rfl,HA,HK1,HB⟩:=hrel
   cases gk with
   | zero=>exact absurd HA.out (by simp [r05_Same.l0])
   | succ k1 =>
    have H:=HA.out
    clear HA
    simp only [r05_Same.l0] at H
    by_cases c4:x5_1<(l0.length:Int)
    ·rw [if_pos c4] at H
     have c4b0:decide (x5_1<(l0.length:Int))=true:=decide_eq_true c4
     clear c4
     by_cases c5:0≤x5_1
     ·rw [if_pos c5] at H
      have c5b0:decide (0≤x5_1)=true:=decide_eq_true c5
      clear c5
      by_cases c6:x5_1<(l1.length:Int)
      ·rw [if_pos c6] at H
       have c6b0:decide (x5_1<(l1.length:Int))=true:=decide_eq_true c6
       clear c6
       replace H:=Option.bind_eq_some_iff.mp H
       obtain ⟨t148,A70,H⟩:=H
       replace H:(if t148=true then (r05_Same.l0 k1 l0 l1 (wrap64 (x5_1+1))) else (some false))=some r:=H
       have A7:=Aside0.mk A70
       clear A70
       by_cases c8:t148=true
       ·subst c8
        have H1:(r05_Same.l0 k1 l0 l1 (wrap64 (x5_1+1)))=some r:=by rw [if_pos rfl] at H;exact H
        clear H
        have H:=H1
        clear H1
        have H':=Aside0.mk H
        clear H
        try go_wp2
        have n0_:=Aside0.mk (below_drew1 HB.out)
        clear HB
        have HB:=n0_
        clear n0_
        have p146:0≤(x5_1:Int):=of_decide_eq_true (by first|(with_reducible assumption)|assumption)
        have q146:x5_1<(l0.length:Int):=of_decide_eq_true (by first|(with_reducible assumption)|assumption)
        obtain ⟨ad146,A146_4,c146_4,e146,hx146_0,hx146_1,hx146_2,hx146_3,hx146_4,hl146_4,hi146_4⟩:=at_T41 HR0.out x5_1 p146 q146
        have hw146_4:=hx146_4
        have hw146_3:=hx146_3
        have hw146_2:=hx146_2
        have hw146_1:=hx146_1
        have hw146_0:=hx146_0
        cases e146
        replace hx146_0:=(HB.out.cell (World.block_lt_of_cell? w _ hx146_0)).trans hx146_0
        replace hx146_1:=(HB.out.cell (World.block_lt_of_cell? w _ hx146_1)).trans hx146_1
        replace hx146_2:=(HB.out.cell (World.block_lt_of_cell? w _ hx146_2)).trans hx146_2
        replace hx146_3:=(HB.out.cell (World.block_lt_of_cell? w _ hx146_3)).trans hx146_3
        replace hx146_4:=(HB.out.cell (World.block_lt_of_cell? w _ hx146_4)).trans hx146_4
        have HR146_4:=Aside0.mk hi146_4
        have HC146_4:=Aside0.mk hl146_4
        clear hi146_4 hl146_4
        replace p146:=eq_true p146
        replace q146:=eq_true q146
        have p147:0≤(x5_1:Int):=of_decide_eq_true (by first|(with_reducible assumption)|assumption)
        have q147:x5_1<(l1.length:Int):=of_decide_eq_true (by first|(with_reducible assumption)|assumption)
        obtain ⟨ad147,A147_4,c147_4,e147,hx147_0,hx147_1,hx147_2,hx147_3,hx147_4,hl147_4,hi147_4⟩:=at_T41 HR1.out x5_1 p147 q147
        have hw147_4:=hx147_4
        have hw147_3:=hx147_3
        have hw147_2:=hx147_2
        have hw147_1:=hx147_1
        have hw147_0:=hx147_0
        cases e147
        replace hx147_0:=(HB.out.cell (World.block_lt_of_cell? w _ hx147_0)).trans hx147_0
        replace hx147_1:=(HB.out.cell (World.block_lt_of_cell? w _ hx147_1)).trans hx147_1
        replace hx147_2:=(HB.out.cell (World.block_lt_of_cell? w _ hx147_2)).trans hx147_2
        replace hx147_3:=(HB.out.cell (World.block_lt_of_cell? w _ hx147_3)).trans hx147_3
        replace hx147_4:=(HB.out.cell (World.block_lt_of_cell? w _ hx147_4)).trans hx147_4
        have HR147_4:=Aside0.mk hi147_4
        have HC147_4:=Aside0.mk hl147_4
        clear hi147_4 hl147_4
        replace p147:=eq_true p147
        replace q147:=eq_true q147
        refine start_ (n:=10) (S:=fun w'=>w'.cell? (ad146.add ((x5_1).toNat * 5))=some (.int .i64 ((rd_T41 l0 x5_1).f0))∧w'.cell? ⟨(ad146.add ((x5_1).toNat * 5)).block,(ad146.add ((x5_1).toNat * 5)).off+1,none⟩=some (.int .i64 ((rd_T41 l0 x5_1).f1))∧w'.cell? ⟨(ad146.add ((x5_1).toNat * 5)).block,(ad146.add ((x5_1).toNat * 5)).off+2,none⟩=some (.int .i64 ((rd_T41 l0 x5_1).f2))∧w'.cell? ⟨(ad146.add ((x5_1).toNat * 5)).block,(ad146.add ((x5_1).toNat * 5)).off+3,none⟩=some (.int .i64 ((rd_T41 l0 x5_1).f3))∧w'.cell? ⟨(ad146.add ((x5_1).toNat * 5)).block,(ad146.add ((x5_1).toNat * 5)).off+4,none⟩=some (.slice A146_4 ((rd_T41 l0 x5_1).f4).length c146_4)∧w'.cell? (ad147.add ((x5_1).toNat * 5))=some (.int .i64 ((rd_T41 l1 x5_1).f0))∧w'.cell? ⟨(ad147.add ((x5_1).toNat * 5)).block,(ad147.add ((x5_1).toNat * 5)).off+1,none⟩=some (.int .i64 ((rd_T41 l1 x5_1).f1))∧w'.cell? ⟨(ad147.add ((x5_1).toNat * 5)).block,(ad147.add ((x5_1).toNat * 5)).off+2,none⟩=some (.int .i64 ((rd_T41 l1 x5_1).f2))∧w'.cell? ⟨(ad147.add ((x5_1).toNat * 5)).block,(ad147.add ((x5_1).toNat * 5)).off+3,none⟩=some (.int .i64 ((rd_T41 l1 x5_1).f3))∧w'.cell? ⟨(ad147.add ((x5_1).toNat * 5)).block,(ad147.add ((x5_1).toNat * 5)).off+4,none⟩=some (.slice A147_4 ((rd_T41 l1 x5_1).f4).length c147_4)) (ds:=[]) #[false,false,false,false,false,false,false,false,false,false] (by kernel_rfl) rfl rfl ⟨((HB.out.cell (World.block_lt_of_cell? w _ hw146_0)).trans hw146_0),((HB.out.cell (World.block_lt_of_cell? w _ hw146_1)).trans hw146_1),((HB.out.cell (World.block_lt_of_cell? w _ hw146_2)).trans hw146_2),((HB.out.cell (World.block_lt_of_cell? w _ hw146_3)).trans hw146_3),((HB.out.cell (World.block_lt_of_cell? w _ hw146_4)).trans hw146_4),((HB.out.cell (World.block_lt_of_cell? w _ hw147_0)).trans hw147_0),((HB.out.cell (World.block_lt_of_cell? w _ hw147_1)).trans hw147_1),((HB.out.cell (World.block_lt_of_cell? w _ hw147_2)).trans hw147_2),((HB.out.cell (World.block_lt_of_cell? w _ hw147_3)).trans hw147_3),((HB.out.cell (World.block_lt_of_cell? w _ hw147_4)).trans hw147_4)⟩ (fun hHeld=>?_);refine with_tabW r05_Same.tab6 r05_Same.bits6 (fun HT_ HW_=>?_)
        generalize wr.drew=w9 at HB HR146_4 HR147_4 hx146_0 hx146_1 hx146_2 hx146_3 hx146_4 hx147_0 hx147_1 hx147_2 hx147_3 hx147_4 hHeld ⊢
        refine pure_ (i:=0) (N:=some 18) (v:=?_) (a':=?_) #[true,false,false,false,false,false,false,false,false,false] rfl rfl (any_of HT_.out (by kernel_rfl)) (fun _ _ _ h=>h) (Or.inl ⟨by rfl,?_⟩) ?_ ?_
        rotate_left
        ·intro w'
         go_simp
         with_reducible rfl
        rotate_left
        ·simp only [Act.put,List.setIfInBounds_toArray,List.set_cons_zero,List.set_cons_succ,i64_w,i32_w]
         rfl
        refine pure_ (i:=1) (N:=some 19) (v:=?_) (a':=?_) #[true,true,false,false,false,false,false,false,false,false] rfl rfl (any_of HT_.out (by kernel_rfl)) (fun _ _ _ h=>h) (Or.inl ⟨by rfl,?_⟩) ?_ ?_
        rotate_left
        ·intro w'
         go_simp
         with_reducible rfl
        rotate_left
        ·simp only [Act.put,List.setIfInBounds_toArray,List.set_cons_zero,List.set_cons_succ,i64_w,i32_w]
         rfl
        refine pure_ (i:=2) (N:=some 20) (v:=?_) (a':=?_) #[true,true,true,false,false,false,false,false,false,false] rfl rfl (any_of HT_.out (by kernel_rfl)) (fun _ _ _ h=>h) (Or.inl ⟨by rfl,?_⟩) ?_ ?_
        rotate_left
        ·intro w'
         go_simp
         with_reducible rfl
        rotate_left
        ·simp only [Act.put,List.setIfInBounds_toArray,List.set_cons_zero,List.set_cons_succ,i64_w,i32_w]
         rfl
        refine pure_ (i:=4) (N:=some 22) (v:=?_) (a':=?_) #[true,true,true,false,true,false,false,false,false,false] rfl rfl (any_of HT_.out (by kernel_rfl)) (fun _ _ _ h=>h) (Or.inl ⟨by rfl,?_⟩) ?_ ?_
        rotate_left
        ·intro w'
         go_simp
         with_reducible rfl
        rotate_left
        ·simp only [Act.put,List.setIfInBounds_toArray,List.set_cons_zero,List.set_cons_succ,i64_w,i32_w]
         rfl
        refine pure_ (i:=5) (N:=some 23) (v:=?_) (a':=?_) #[true,true,true,false,true,true,false,false,false,false] rfl rfl (any_of HT_.out (by kernel_rfl)) (fun _ _ _ h=>h) (Or.inl ⟨by rfl,?_⟩) ?_ ?_
        rotate_left
        ·intro w'
         go_simp
         with_reducible rfl
        rotate_left
        ·simp only [Act.put,List.setIfInBounds_toArray,List.set_cons_zero,List.set_cons_succ,i64_w,i32_w]
         rfl
        refine pure_ (i:=6) (N:=some 24) (v:=?_) (a':=?_) #[true,true,true,false,true,true,true,false,false,false] rfl rfl (any_of HT_.out (by kernel_rfl)) (fun _ _ _ h=>h) (Or.inl ⟨by rfl,?_⟩) ?_ ?_
        rotate_left
        ·intro w'
         go_simp
         with_reducible rfl
        rotate_left
        ·simp only [Act.put,List.setIfInBounds_toArray,List.set_cons_zero,List.set_cons_succ,i64_w,i32_w]
         rfl
        refine take_ (i:=3) (N:=some 21) (v:=?_) (a':=?_) #[true,true,true,true,true,true,true,false,false,false] rfl rfl (take_ofW HT_.out HW_.out (by kernel_rfl)) (fun _ _ _ h=>h) (Or.inl ⟨by rfl,?_⟩) hHeld ?_ ?_
        rotate_left
        ·rintro w' ⟨s0,s1,s2,s3,s4,s5,s6,s7,s8,s9⟩
         go_simp
         with_reducible rfl
        rotate_left
        ·simp only [Act.put,List.setIfInBounds_toArray,List.set_cons_zero,List.set_cons_succ,i64_w,i32_w]
         rfl
        refine take_ (i:=7) (N:=some 25) (v:=?_) (a':=?_) #[true,true,true,true,true,true,true,true,false,false] rfl rfl (take_ofW HT_.out HW_.out (by kernel_rfl)) (fun _ _ _ h=>h) (Or.inl ⟨by rfl,?_⟩) hHeld ?_ ?_
        rotate_left
        ·rintro w' ⟨s0,s1,s2,s3,s4,s5,s6,s7,s8,s9⟩
         go_simp
         with_reducible rfl
        rotate_left
        ·simp only [Act.put,List.setIfInBounds_toArray,List.set_cons_zero,List.set_cons_succ,i64_w,i32_w]
         rfl
        refine one_ (i:=8) (N:=some 26) #[true,true,true,true,true,true,true,true,true,false] rfl rfl (one_of HT_.out (by kernel_rfl)) (by decide) (fun K hK=>?_)
        refine goes_ Tryd.func38 (by kernel_rfl) rfl #[.agg #[.int .i64 ((rd_T41 l0 x5_1).f0),.int .i64 ((rd_T41 l0 x5_1).f1),.int .i64 ((rd_T41 l0 x5_1).f2),.int .i64 ((rd_T41 l0 x5_1).f3),.slice A146_4 ((rd_T41 l0 x5_1).f4).length c146_4],.agg #[.int .i64 ((rd_T41 l1 x5_1).f0),.int .i64 ((rd_T41 l1 x5_1).f1),.int .i64 ((rd_T41 l1 x5_1).f2),.int .i64 ((rd_T41 l1 x5_1).f3),.slice A147_4 ((rd_T41 l1 x5_1).f4).length c147_4]] (by rfl) rfl rfl (by (try simp only [List.map_toArray,List.map_cons,List.map_nil]);first|done|rfl|(simp only [List.length_drop,List.length_take];rfl)) ?_
        with_reducible refine (r05_One.calls k1 ((rd_T41 l0 x5_1).f0) ((rd_T41 l0 x5_1).f1) ((rd_T41 l0 x5_1).f2) ((rd_T41 l0 x5_1).f3) _ _ ((rd_T41 l0 x5_1).f4) ((rd_T41 l1 x5_1).f0) ((rd_T41 l1 x5_1).f1) ((rd_T41 l1 x5_1).f2) ((rd_T41 l1 x5_1).f3) _ _ ((rd_T41 l1 x5_1).f4) true _ ?side1 ?side2 ?side3 ?side4 A7.out).mono ?_
        (case side1=>repeat (first|exact (Kd.C_below HR146_4.out HB.out)|(with_reducible refine Kd.C_alloc ?_ _)|(with_reducible refine Kd.C_drewN ?_ _)|(with_reducible refine Kd.C_drew ?_)))
        (case side2=>exact HC146_4.out)
        (case side3=>repeat (first|exact (Kd.C_below HR147_4.out HB.out)|(with_reducible refine Kd.C_alloc ?_ _)|(with_reducible refine Kd.C_drewN ?_ _)|(with_reducible refine Kd.C_drew ?_)))
        (case side4=>exact HC147_4.out)
        rintro e w10 ⟨rfl,hb⟩
        refine ⟨_,rfl,?_⟩
        have n0_:=Aside0.mk (below_step (by repeat (first|(with_reducible first|exact HB.out|apply below_alloc|apply pw_below_drewN|apply below_drew1)|exact HB.out)) hb)
        clear HB
        have HB:=n0_
        clear n0_
        (try clear hb)
        (try clear hb2)
        (try clear hk)
        (try clear hi)
        refine hK.out _ _ ⟨((HB.out.cell (World.block_lt_of_cell? w _ hw146_0)).trans hw146_0),((HB.out.cell (World.block_lt_of_cell? w _ hw146_1)).trans hw146_1),((HB.out.cell (World.block_lt_of_cell? w _ hw146_2)).trans hw146_2),((HB.out.cell (World.block_lt_of_cell? w _ hw146_3)).trans hw146_3),((HB.out.cell (World.block_lt_of_cell? w _ hw146_4)).trans hw146_4),((HB.out.cell (World.block_lt_of_cell? w _ hw147_0)).trans hw147_0),((HB.out.cell (World.block_lt_of_cell? w _ hw147_1)).trans hw147_1),((HB.out.cell (World.block_lt_of_cell? w _ hw147_2)).trans hw147_2),((HB.out.cell (World.block_lt_of_cell? w _ hw147_3)).trans hw147_3),((HB.out.cell (World.block_lt_of_cell? w _ hw147_4)).trans hw147_4)⟩ (fun hHeld=>?_)
        clear hK K
        refine norm_ (a':=?_) ?_ ?_
        rotate_left
        ·show Act.put _ (some 26) _=_
         simp only [Act.put,List.setIfInBounds_toArray,List.set_cons_zero,List.set_cons_succ,i64_w,i32_w]
         rfl
        refine pure_ (i:=9) (N:=some 6) (v:=?_) (a':=?_) #[true,true,true,true,true,true,true,true,true,true] rfl rfl (any_of HT_.out (by kernel_rfl)) (fun _ _ _ h=>h) (Or.inl ⟨by rfl,?_⟩) ?_ ?_
        rotate_left
        ·intro w'
         go_simp
         with_reducible rfl
        rotate_left
        ·simp only [Act.put,List.setIfInBounds_toArray,List.set_cons_zero,List.set_cons_succ,i64_w,i32_w]
         rfl
        refine done_ (done_of HT_.out (by kernel_rfl)) ?_
        try go_wp2
        go_roundg k1
        case measure=>have:=HK1.out;omega
        case rel=>exact ⟨(wrap64 (x5_1+1)),(by first|rfl|(simp;done)|(simp [*];done)),H',⟨by have:=HK1.out;omega⟩,⟨by repeat (first|(with_reducible first|exact HB.out|apply below_alloc|apply pw_below_drewN|apply below_drew1)|exact HB.out)⟩⟩
       ·replace c8:=Bool.eq_false_iff.mpr c8
        subst c8
        have H1:(some false)=some r:=by rw [if_neg (show ¬ (false=true) by decide)] at H;exact H
        clear H
        have H:=H1
        clear H1
        obtain rfl:=Option.some.inj H
        try go_wp2
        have n0_:=Aside0.mk (below_drew1 HB.out)
        clear HB
        have HB:=n0_
        clear n0_
        have p146:0≤(x5_1:Int):=of_decide_eq_true (by first|(with_reducible assumption)|assumption)
        have q146:x5_1<(l0.length:Int):=of_decide_eq_true (by first|(with_reducible assumption)|assumption)
        obtain ⟨ad146,A146_4,c146_4,e146,hx146_0,hx146_1,hx146_2,hx146_3,hx146_4,hl146_4,hi146_4⟩:=at_T41 HR0.out x5_1 p146 q146
        have hw146_4:=hx146_4
        have hw146_3:=hx146_3
        have hw146_2:=hx146_2
        have hw146_1:=hx146_1
        have hw146_0:=hx146_0
        cases e146
        replace hx146_0:=(HB.out.cell (World.block_lt_of_cell? w _ hx146_0)).trans hx146_0
        replace hx146_1:=(HB.out.cell (World.block_lt_of_cell? w _ hx146_1)).trans hx146_1
        replace hx146_2:=(HB.out.cell (World.block_lt_of_cell? w _ hx146_2)).trans hx146_2
        replace hx146_3:=(HB.out.cell (World.block_lt_of_cell? w _ hx146_3)).trans hx146_3
        replace hx146_4:=(HB.out.cell (World.block_lt_of_cell? w _ hx146_4)).trans hx146_4
        have HR146_4:=Aside0.mk hi146_4
        have HC146_4:=Aside0.mk hl146_4
        clear hi146_4 hl146_4
        replace p146:=eq_true p146
        replace q146:=eq_true q146
        have p147:0≤(x5_1:Int):=of_decide_eq_true (by first|(with_reducible assumption)|assumption)
        have q147:x5_1<(l1.length:Int):=of_decide_eq_true (by first|(with_reducible assumption)|assumption)
        obtain ⟨ad147,A147_4,c147_4,e147,hx147_0,hx147_1,hx147_2,hx147_3,hx147_4,hl147_4,hi147_4⟩:=at_T41 HR1.out x5_1 p147 q147
        have hw147_4:=hx147_4
        have hw147_3:=hx147_3
        have hw147_2:=hx147_2
        have hw147_1:=hx147_1
        have hw147_0:=hx147_0
        cases e147
        replace hx147_0:=(HB.out.cell (World.block_lt_of_cell? w _ hx147_0)).trans hx147_0
        replace hx147_1:=(HB.out.cell (World.block_lt_of_cell? w _ hx147_1)).trans hx147_1
        replace hx147_2:=(HB.out.cell (World.block_lt_of_cell? w _ hx147_2)).trans hx147_2
        replace hx147_3:=(HB.out.cell (World.block_lt_of_cell? w _ hx147_3)).trans hx147_3
        replace hx147_4:=(HB.out.cell (World.block_lt_of_cell? w _ hx147_4)).trans hx147_4
        have HR147_4:=Aside0.mk hi147_4
        have HC147_4:=Aside0.mk hl147_4
        clear hi147_4 hl147_4
        replace p147:=eq_true p147
        replace q147:=eq_true q147
        refine start_ (n:=10) (S:=fun w'=>w'.cell? (ad146.add ((x5_1).toNat * 5))=some (.int .i64 ((rd_T41 l0 x5_1).f0))∧w'.cell? ⟨(ad146.add ((x5_1).toNat * 5)).block,(ad146.add ((x5_1).toNat * 5)).off+1,none⟩=some (.int .i64 ((rd_T41 l0 x5_1).f1))∧w'.cell? ⟨(ad146.add ((x5_1).toNat * 5)).block,(ad146.add ((x5_1).toNat * 5)).off+2,none⟩=some (.int .i64 ((rd_T41 l0 x5_1).f2))∧w'.cell? ⟨(ad146.add ((x5_1).toNat * 5)).block,(ad146.add ((x5_1).toNat * 5)).off+3,none⟩=some (.int .i64 ((rd_T41 l0 x5_1).f3))∧w'.cell? ⟨(ad146.add ((x5_1).toNat * 5)).block,(ad146.add ((x5_1).toNat * 5)).off+4,none⟩=some (.slice A146_4 ((rd_T41 l0 x5_1).f4).length c146_4)∧w'.cell? (ad147.add ((x5_1).toNat * 5))=some (.int .i64 ((rd_T41 l1 x5_1).f0))∧w'.cell? ⟨(ad147.add ((x5_1).toNat * 5)).block,(ad147.add ((x5_1).toNat * 5)).off+1,none⟩=some (.int .i64 ((rd_T41 l1 x5_1).f1))∧w'.cell? ⟨(ad147.add ((x5_1).toNat * 5)).block,(ad147.add ((x5_1).toNat * 5)).off+2,none⟩=some (.int .i64 ((rd_T41 l1 x5_1).f2))∧w'.cell? ⟨(ad147.add ((x5_1).toNat * 5)).block,(ad147.add ((x5_1).toNat * 5)).off+3,none⟩=some (.int .i64 ((rd_T41 l1 x5_1).f3))∧w'.cell? ⟨(ad147.add ((x5_1).toNat * 5)).block,(ad147.add ((x5_1).toNat * 5)).off+4,none⟩=some (.slice A147_4 ((rd_T41 l1 x5_1).f4).length c147_4)) (ds:=[]) #[false,false,false,false,false,false,false,false,false,false] (by kernel_rfl) rfl rfl ⟨((HB.out.cell (World.block_lt_of_cell? w _ hw146_0)).trans hw146_0),((HB.out.cell (World.block_lt_of_cell? w _ hw146_1)).trans hw146_1),((HB.out.cell (World.block_lt_of_cell? w _ hw146_2)).trans hw146_2),((HB.out.cell (World.block_lt_of_cell? w _ hw146_3)).trans hw146_3),((HB.out.cell (World.block_lt_of_cell? w _ hw146_4)).trans hw146_4),((HB.out.cell (World.block_lt_of_cell? w _ hw147_0)).trans hw147_0),((HB.out.cell (World.block_lt_of_cell? w _ hw147_1)).trans hw147_1),((HB.out.cell (World.block_lt_of_cell? w _ hw147_2)).trans hw147_2),((HB.out.cell (World.block_lt_of_cell? w _ hw147_3)).trans hw147_3),((HB.out.cell (World.block_lt_of_cell? w _ hw147_4)).trans hw147_4)⟩ (fun hHeld=>?_);refine with_tabW r05_Same.tab6 r05_Same.bits6 (fun HT_ HW_=>?_)
        generalize wr.drew=w11 at HB HR146_4 HR147_4 hx146_0 hx146_1 hx146_2 hx146_3 hx146_4 hx147_0 hx147_1 hx147_2 hx147_3 hx147_4 hHeld ⊢
        refine pure_ (i:=0) (N:=some 18) (v:=?_) (a':=?_) #[true,false,false,false,false,false,false,false,false,false] rfl rfl (any_of HT_.out (by kernel_rfl)) (fun _ _ _ h=>h) (Or.inl ⟨by rfl,?_⟩) ?_ ?_
        rotate_left
        ·intro w'
         go_simp
         with_reducible rfl
        rotate_left
        ·simp only [Act.put,List.setIfInBounds_toArray,List.set_cons_zero,List.set_cons_succ,i64_w,i32_w]
         rfl
        refine pure_ (i:=1) (N:=some 19) (v:=?_) (a':=?_) #[true,true,false,false,false,false,false,false,false,false] rfl rfl (any_of HT_.out (by kernel_rfl)) (fun _ _ _ h=>h) (Or.inl ⟨by rfl,?_⟩) ?_ ?_
        rotate_left
        ·intro w'
         go_simp
         with_reducible rfl
        rotate_left
        ·simp only [Act.put,List.setIfInBounds_toArray,List.set_cons_zero,List.set_cons_succ,i64_w,i32_w]
         rfl
        refine pure_ (i:=2) (N:=some 20) (v:=?_) (a':=?_) #[true,true,true,false,false,false,false,false,false,false] rfl rfl (any_of HT_.out (by kernel_rfl)) (fun _ _ _ h=>h) (Or.inl ⟨by rfl,?_⟩) ?_ ?_
        rotate_left
        ·intro w'
         go_simp
         with_reducible rfl
        rotate_left
        ·simp only [Act.put,List.setIfInBounds_toArray,List.set_cons_zero,List.set_cons_succ,i64_w,i32_w]
         rfl
        refine pure_ (i:=4) (N:=some 22) (v:=?_) (a':=?_) #[true,true,true,false,true,false,false,false,false,false] rfl rfl (any_of HT_.out (by kernel_rfl)) (fun _ _ _ h=>h) (Or.inl ⟨by rfl,?_⟩) ?_ ?_
        rotate_left
        ·intro w'
         go_simp
         with_reducible rfl
        rotate_left
        ·simp only [Act.put,List.setIfInBounds_toArray,List.set_cons_zero,List.set_cons_succ,i64_w,i32_w]
         rfl
        refine pure_ (i:=5) (N:=some 23) (v:=?_) (a':=?_) #[true,true,true,false,true,true,false,false,false,false] rfl rfl (any_of HT_.out (by kernel_rfl)) (fun _ _ _ h=>h) (Or.inl ⟨by rfl,?_⟩) ?_ ?_
        rotate_left
        ·intro w'
         go_simp
         with_reducible rfl
        rotate_left
        ·simp only [Act.put,List.setIfInBounds_toArray,List.set_cons_zero,List.set_cons_succ,i64_w,i32_w]
         rfl
        refine pure_ (i:=6) (N:=some 24) (v:=?_) (a':=?_) #[true,true,true,false,true,true,true,false,false,false] rfl rfl (any_of HT_.out (by kernel_rfl)) (fun _ _ _ h=>h) (Or.inl ⟨by rfl,?_⟩) ?_ ?_
        rotate_left
        ·intro w'
         go_simp
         with_reducible rfl
        rotate_left
        ·simp only [Act.put,List.setIfInBounds_toArray,List.set_cons_zero,List.set_cons_succ,i64_w,i32_w]
         rfl
        refine take_ (i:=3) (N:=some 21) (v:=?_) (a':=?_) #[true,true,true,true,true,true,true,false,false,false] rfl rfl (take_ofW HT_.out HW_.out (by kernel_rfl)) (fun _ _ _ h=>h) (Or.inl ⟨by rfl,?_⟩) hHeld ?_ ?_
        rotate_left
        ·rintro w' ⟨s0,s1,s2,s3,s4,s5,s6,s7,s8,s9⟩
         go_simp
         with_reducible rfl
        rotate_left
        ·simp only [Act.put,List.setIfInBounds_toArray,List.set_cons_zero,List.set_cons_succ,i64_w,i32_w]
         rfl
        refine take_ (i:=7) (N:=some 25) (v:=?_) (a':=?_) #[true,true,true,true,true,true,true,true,false,false] rfl rfl (take_ofW HT_.out HW_.out (by kernel_rfl)) (fun _ _ _ h=>h) (Or.inl ⟨by rfl,?_⟩) hHeld ?_ ?_
        rotate_left
        ·rintro w' ⟨s0,s1,s2,s3,s4,s5,s6,s7,s8,s9⟩
         go_simp
         with_reducible rfl
        rotate_left
        ·simp only [Act.put,List.setIfInBounds_toArray,List.set_cons_zero,List.set_cons_succ,i64_w,i32_w]
         rfl
        refine one_ (i:=8) (N:=some 26) #[true,true,true,true,true,true,true,true,true,false] rfl rfl (one_of HT_.out (by kernel_rfl)) (by decide) (fun K hK=>?_)
        refine goes_ Tryd.func38 (by kernel_rfl) rfl #[.agg #[.int .i64 ((rd_T41 l0 x5_1).f0),.int .i64 ((rd_T41 l0 x5_1).f1),.int .i64 ((rd_T41 l0 x5_1).f2),.int .i64 ((rd_T41 l0 x5_1).f3),.slice A146_4 ((rd_T41 l0 x5_1).f4).length c146_4],.agg #[.int .i64 ((rd_T41 l1 x5_1).f0),.int .i64 ((rd_T41 l1 x5_1).f1),.int .i64 ((rd_T41 l1 x5_1).f2),.int .i64 ((rd_T41 l1 x5_1).f3),.slice A147_4 ((rd_T41 l1 x5_1).f4).length c147_4]] (by rfl) rfl rfl (by (try simp only [List.map_toArray,List.map_cons,List.map_nil]);first|done|rfl|(simp only [List.length_drop,List.length_take];rfl)) ?_
        with_reducible refine (r05_One.calls k1 ((rd_T41 l0 x5_1).f0) ((rd_T41 l0 x5_1).f1) ((rd_T41 l0 x5_1).f2) ((rd_T41 l0 x5_1).f3) _ _ ((rd_T41 l0 x5_1).f4) ((rd_T41 l1 x5_1).f0) ((rd_T41 l1 x5_1).f1) ((rd_T41 l1 x5_1).f2) ((rd_T41 l1 x5_1).f3) _ _ ((rd_T41 l1 x5_1).f4) false _ ?side1 ?side2 ?side3 ?side4 A7.out).mono ?_
        (case side1=>repeat (first|exact (Kd.C_below HR146_4.out HB.out)|(with_reducible refine Kd.C_alloc ?_ _)|(with_reducible refine Kd.C_drewN ?_ _)|(with_reducible refine Kd.C_drew ?_)))
        (case side2=>exact HC146_4.out)
        (case side3=>repeat (first|exact (Kd.C_below HR147_4.out HB.out)|(with_reducible refine Kd.C_alloc ?_ _)|(with_reducible refine Kd.C_drewN ?_ _)|(with_reducible refine Kd.C_drew ?_)))
        (case side4=>exact HC147_4.out)
        rintro e w12 ⟨rfl,hb⟩
        refine ⟨_,rfl,?_⟩
        have n0_:=Aside0.mk (below_step (by repeat (first|(with_reducible first|exact HB.out|apply below_alloc|apply pw_below_drewN|apply below_drew1)|exact HB.out)) hb)
        clear HB
        have HB:=n0_
        clear n0_
        (try clear hb)
        (try clear hb2)
        (try clear hk)
        (try clear hi)
        refine hK.out _ _ ⟨((HB.out.cell (World.block_lt_of_cell? w _ hw146_0)).trans hw146_0),((HB.out.cell (World.block_lt_of_cell? w _ hw146_1)).trans hw146_1),((HB.out.cell (World.block_lt_of_cell? w _ hw146_2)).trans hw146_2),((HB.out.cell (World.block_lt_of_cell? w _ hw146_3)).trans hw146_3),((HB.out.cell (World.block_lt_of_cell? w _ hw146_4)).trans hw146_4),((HB.out.cell (World.block_lt_of_cell? w _ hw147_0)).trans hw147_0),((HB.out.cell (World.block_lt_of_cell? w _ hw147_1)).trans hw147_1),((HB.out.cell (World.block_lt_of_cell? w _ hw147_2)).trans hw147_2),((HB.out.cell (World.block_lt_of_cell? w _ hw147_3)).trans hw147_3),((HB.out.cell (World.block_lt_of_cell? w _ hw147_4)).trans hw147_4)⟩ (fun hHeld=>?_)
        clear hK K
        refine norm_ (a':=?_) ?_ ?_
        rotate_left
        ·show Act.put _ (some 26) _=_
         simp only [Act.put,List.setIfInBounds_toArray,List.set_cons_zero,List.set_cons_succ,i64_w,i32_w]
         rfl
        refine pure_ (i:=9) (N:=some 6) (v:=?_) (a':=?_) #[true,true,true,true,true,true,true,true,true,true] rfl rfl (any_of HT_.out (by kernel_rfl)) (fun _ _ _ h=>h) (Or.inl ⟨by rfl,?_⟩) ?_ ?_
        rotate_left
        ·intro w'
         go_simp
         with_reducible rfl
        rotate_left
        ·simp only [Act.put,List.setIfInBounds_toArray,List.set_cons_zero,List.set_cons_succ,i64_w,i32_w]
         rfl
        refine done_ (done_of HT_.out (by kernel_rfl)) ?_
        try go_wp2
        go_ret
        exact ⟨by first|rfl|(simp [errW_none,errW_some]<;>rfl)|(simp [*,errW_none,errW_some]<;>rfl),by repeat (first|(with_reducible first|exact HB.out|apply below_alloc|apply pw_below_drewN|apply below_drew1)|exact HB.out)⟩
      ·rw [if_neg c6] at H
       exact absurd H (by simp)
     ·rw [if_neg c5] at H
      exact absurd H (by simp)
    ·rw [if_neg c4] at H
     have c4b0:decide (x5_1<(l0.length:Int))=false:=decide_eq_false c4
     clear c4
     obtain rfl:=Option.some.inj H
     go_wp2
     go_ret
     exact ⟨by first|rfl|(simp [errW_none,errW_some]<;>rfl)|(simp [*,errW_none,errW_some]<;>rfl),by repeat (first|(with_reducible first|exact HB.out|apply below_alloc|apply pw_below_drewN|apply below_drew1)|exact HB.out)⟩
 ·rw [if_neg c3] at H
  have c3b0:((l0.length:Int) == (l1.length:Int))=false:=beq_eq_false_iff_ne.mpr c3
  have c3b1:((l0.length:Int) != (l1.length:Int))=true:=bne_iff_ne.mpr c3
  have c3b2:(l0.length == l1.length)=false:=by first|simpa using c3|(simp at c3 ⊢;omega)
  obtain rfl:=Option.some.inj H
  go_enter Tryd.func14,Tryd.ntmps14
  go_wp2
  go_ret
  exact ⟨by first|rfl|(simp [errW_none,errW_some]<;>rfl)|(simp [*,errW_none,errW_some]<;>rfl),by repeat (first|(with_reducible first|exact HB.out|apply below_alloc|apply pw_below_drewN|apply below_drew1)|exact HB.out)⟩


end Go.Proofs.YtamojbfmphainaaDoor.Pr
-- shrunk
/-
The document's Same of hunks: a list is the same as itself; what is read of a list of hunks.
-/
namespace Go.Proofs.YtamojbfmphainaaDoor.Pr
open Go.RowKit Go.Proofs.YtamojbfmphainaaDoorW.PrintWords Go.Proofs.YtamojbfmphainaaDoorW.PrintLast Go.Proofs.YtamojbfmphainaaDoorW.PrintMore
theorem OneS_ev (h:Hk) (hl:h.f4.length≤4611686018427387904):Ev (fun k=>r05_One.f k h.f0 h.f1 h.f2 h.f3 h.f4 h.f0 h.f1 h.f2 h.f3 h.f4) true:=by
 unfold r05_One.f
 simp only [if_true]
 have h2:=Texts_ev h.f4 h.f4 hl
 rw [decide_eq_true rfl] at h2
 refine Ev.bind h2 ?_
 exact Ev.now _
theorem SameH_l0 (a:List Hk) (hn:a.length≤4611686018427387904) (hl:∀ h ∈ a,h.f4.length≤4611686018427387904):∀ d i,a.length - i=d→i≤a.length→Ev (fun k=>r05_Same.l0 k a a (i:Int)) true:=by
 intro d
 induction d with
 | zero =>
  intro i hd hi
  refine Ev.step (fun _=>r05_Same.l0.eq_2 ..) ?_
  simp only [if_neg (show ¬ (i:Int)<(a.length:Int) by omega)]
  exact Ev.now _
 | succ d ih =>
  intro i hd hi
  refine Ev.step (fun _=>r05_Same.l0.eq_2 ..) ?_
  have h0:i<a.length:=by omega
  simp only [if_pos (show (i:Int)<(a.length:Int) by omega),if_pos (show 0≤(i:Int) by omega),rdU_at h0,w_succ h0 hn]
  refine Ev.bind (OneS_ev _ (hl _ (List.getElem_mem h0))) ?_
  simp only [if_true]
  exact ih (i+1) (by omega) (by omega)
theorem SameH_ev (a:List Hk) (hn:a.length≤4611686018427387904) (hl:∀ h ∈ a,h.f4.length≤4611686018427387904):Ev (fun k=>r05_Same.f k a a) true:=by
 unfold r05_Same.f
 simp only [if_true]
 exact SameH_l0 a hn hl _ 0 rfl (by omega)
end Go.Proofs.YtamojbfmphainaaDoor.Pr
-- shrunk
/-
The chapter's example of layer 6: it answers true.
-/
namespace Go.Proofs.YtamojbfmphainaaDoor.Pr
open Go.RowKit Go.Proofs.YtamojbfmphainaaDoorW.PrintWords Go.Proofs.YtamojbfmphainaaDoorW.PrintLast Go.Proofs.YtamojbfmphainaaDoorW.PrintMore
theorem C_two (w:World) (s t:ByteArray):Kd.string.C (w.alloc (.cells #[.string s,.string t] 9 (0,0))) (some ⟨w.heap.size,0,none⟩) 2 [s,t]:=by
 have hb:=blk_new w (.cells #[.string s,.string t] 9 (0,0))
 refine ⟨rfl,by omega,fun _=>⟨_,rfl,fun j p hj=>⟨[.string p],rfl,rfl,fun i u hu=>?_⟩⟩⟩
 rcases j with _|_|j
 ·obtain rfl:s=p:=by simpa using hj
  rcases i with _|i
  ·obtain rfl:Value.string s=u:=by simpa using hu
   exact (blk_cell hb 0).trans rfl
  ·simp at hu
 ·obtain rfl:t=p:=by simpa using hj
  rcases i with _|i
  ·obtain rfl:Value.string t=u:=by simpa using hu
   exact (blk_cell hb 1).trans rfl
  ·simp at hu
 ·simp at hj
theorem C_newH (w:World) (x:S41) (A:Option Addr) (c:Nat) (hc:x.f4.length≤c) (h:Kd.string.C w A x.f4.length x.f4) :
  Kd.C k41 (w.alloc (.cells #[.int .i64 x.f0,.int .i64 x.f1,.int .i64 x.f2,.int .i64 x.f3,.slice A x.f4.length c] 41 (0,0))) (some ⟨w.heap.size,0,none⟩) 1 [x]:=by
 have hb:=blk_new w (.cells #[.int .i64 x.f0,.int .i64 x.f1,.int .i64 x.f2,.int .i64 x.f3,.slice A x.f4.length c] 41 (0,0))
 refine ⟨rfl,by omega,fun _=>⟨_,rfl,fun j p hj=>?_⟩⟩
 rcases j with _|j
 ·obtain rfl:x=p:=by simpa using hj
  refine ⟨_,rfl,k41_mk _ x hc (Kd.C_alloc h _),fun i u hu=>?_⟩
  rcases i with _|_|_|_|_|i
  ·obtain rfl:=Option.some.inj hu;exact (blk_cell hb 0).trans rfl
  ·obtain rfl:=Option.some.inj hu;exact (blk_cell hb 1).trans rfl
  ·obtain rfl:=Option.some.inj hu;exact (blk_cell hb 2).trans rfl
  ·obtain rfl:=Option.some.inj hu;exact (blk_cell hb 3).trans rfl
  ·obtain rfl:=Option.some.inj hu;exact (blk_cell hb 4).trans rfl
  ·simp at hu
 ·simp at hj
theorem printU_calls (A:Option Addr) (c:Nat) (l:List S41) (w:World) (hL:LaidU w) (hr:Kd.C k41 w A l.length l) (hc:l.length≤c) (h12:l.length≤12) (hF:∀ x ∈ l,FewH x∧∀ s ∈ x.f4,s.size≤499) :
  Calls Tryd.prog 10 #[.slice A l.length c] w fun e w'=>e=.returned (.string (printL canH l ⟨#[]⟩))∧Below w.heap.size w w' :=
 print_calls canH A c l w hL hr hc
  (fun x hx=>ucan_ev x (by obtain ⟨h1,h2,h3,h4,h5,h6,h7,h8,h9⟩:=(hF x hx).1;exact ⟨by omega,by omega,by omega,by omega⟩) (by have:=(hF x hx).1.1;omega) (fun s hs=>by have:=(hF x hx).2 s hs;omega))
  (fun x hx hc=>by
   obtain ⟨⟨h1,h2,h3,h4,h5,h6,h7,h8,h9⟩,_⟩:=hF x hx
   unfold canH at hc
   rw [Bool.and_eq_true,Bool.and_eq_true] at hc
   have hr:=of_decide_eq_true hc.2.1
   have e1:0≤x.f1:=by rw [hr.2.2.2.1];omega
   have e2:0≤x.f3:=by rw [hr.2.2.2.2];omega
   have:=hr.2.1
   have:=hr.2.2.1
   omega)
  (by omega) (fun x hx=>⟨by have:=(hF x hx).1.1;omega,fun s hs=>by have:=(hF x hx).2 s hs;omega⟩)
set_option maxRecDepth 100000 in
set_option maxHeartbeats 4000000 in
theorem awakeU_calls (w:World) (hL:LaidU w):Calls Tryd.prog 8 #[] w fun e w'=>e=.returned (.bool true)∧Below w.heap.size w w':=by
 have HL:=Aside0.mk hL
 clear hL
 go_enter Tryd.func8,Tryd.ntmps8
 go_upto_region 2 with (fail)
 have HS0:=C_two w ⟨#[45,97,10]⟩ ⟨#[43,98]⟩
 have HB0:Below w.heap.size w (w.alloc (.cells #[.string ⟨#[45,97,10]⟩,.string ⟨#[43,98]⟩] 9 (0,0))):=below_alloc (Below.refl _ _) _
 have hz0:(w.alloc (.cells #[.string ⟨#[45,97,10]⟩,.string ⟨#[43,98]⟩] 9 (0,0))).heap.size=w.heap.size+1:=by show (w.heap.push _).size=_;exact Array.size_push _
 generalize w.alloc (.cells #[.string ⟨#[45,97,10]⟩,.string ⟨#[43,98]⟩] 9 (0,0))=W0 at HS0 HB0 hz0 ⊢
 rw [← hz0]
 have HBX:=Aside0.mk (blk_new W0 (.cells #[.int .i64 0,.int .i64 1,.int .i64 0,.int .i64 1,.slice (some ⟨w.heap.size,0,none⟩) 2 2] 41 (0,0)))
 have HB1:Below w.heap.size w (W0.alloc (.cells #[.int .i64 0,.int .i64 1,.int .i64 0,.int .i64 1,.slice (some ⟨w.heap.size,0,none⟩) 2 2] 41 (0,0))):=below_alloc HB0 _
 have HS1:=Aside0.mk (Kd.C_alloc HS0 (.cells #[.int .i64 0,.int .i64 1,.int .i64 0,.int .i64 1,.slice (some ⟨w.heap.size,0,none⟩) 2 2] 41 (0,0)))
 generalize W0.alloc (.cells #[.int .i64 0,.int .i64 1,.int .i64 0,.int .i64 1,.slice (some ⟨w.heap.size,0,none⟩) 2 2] 41 (0,0))=W1 at HBX HB1 HS1 ⊢
 clear HS0 HB0 hz0
 generalize W0.heap.size=g at HBX ⊢
 obtain ⟨A,hA⟩:∃ A:Option Addr,A=some ⟨w.heap.size,0,none⟩:=⟨_,rfl⟩
 rw [← hA] at HBX HS1 ⊢
 clear hA
 have HL1:=Aside0.mk (HL.out.below HB1)
 have hC:∀ W,Kd.string.C W A 2 exU.f4→Kd.C k41 (W.alloc (.cells #[.int .i64 0,.int .i64 1,.int .i64 0,.int .i64 1,.slice A 2 2] 41 (0,0))) (some ⟨W.heap.size,0,none⟩) 1 [exU]:=fun W h=>C_newH W exU A 2 (Nat.le_refl _) h
 have hF:∀ x ∈ [exU],FewH x∧∀ s ∈ x.f4,s.size≤499:=by
  intro x hx
  obtain rfl:=List.mem_singleton.1 hx
  refine ⟨by decide,fun s hs=>?_⟩
  simp only [exU,List.mem_cons,List.not_mem_nil,or_false] at hs
  rcases hs with rfl|rfl
  ·show 3≤499;omega
  ·show 2≤499;omega
 have CP:=Aside0.mk (show Calls Tryd.prog 10 #[.slice (some ⟨W1.heap.size,0,none⟩) 1 1] (W1.alloc (.cells #[.int .i64 0,.int .i64 1,.int .i64 0,.int .i64 1,.slice A 2 2] 41 (0,0))) fun e w'=>e=.returned (.string (printL canH [exU] ⟨#[]⟩))∧Below (W1.alloc (.cells #[.int .i64 0,.int .i64 1,.int .i64 0,.int .i64 1,.slice A 2 2] 41 (0,0))).heap.size (W1.alloc (.cells #[.int .i64 0,.int .i64 1,.int .i64 0,.int .i64 1,.slice A 2 2] 41 (0,0))) w' from printU_calls (some ⟨W1.heap.size,0,none⟩) 1 [exU] (W1.alloc (.cells #[.int .i64 0,.int .i64 1,.int .i64 0,.int .i64 1,.slice A 2 2] 41 (0,0))) (HL1.out.below (below_alloc (Below.refl _ _) _)) (hC W1 HS1.out) (by decide) (by decide) hF)
 rw [print_ex] at CP
 have HB2:=Aside0.mk (below_alloc HB1 (.cells #[.int .i64 0,.int .i64 1,.int .i64 0,.int .i64 1,.slice A 2 2] 41 (0,0)))
 have HK2:=Aside0.mk (below_alloc (Below.refl W1.heap.size W1) (.cells #[.int .i64 0,.int .i64 1,.int .i64 0,.int .i64 1,.slice A 2 2] 41 (0,0)))
 have z0:W1.cell? ⟨g,0,none⟩=some (.int .i64 0):=(blk_cell HBX.out 0).trans rfl
 have z1:W1.cell? ⟨g,1,none⟩=some (.int .i64 1):=(blk_cell HBX.out 1).trans rfl
 have z2:W1.cell? ⟨g,2,none⟩=some (.int .i64 0):=(blk_cell HBX.out 2).trans rfl
 have z3:W1.cell? ⟨g,3,none⟩=some (.int .i64 1):=(blk_cell HBX.out 3).trans rfl
 have z4:W1.cell? ⟨g,4,none⟩=some (.slice A 2 2):=(blk_cell HBX.out 4).trans rfl
 obtain ⟨T,hT⟩:∃ T,T=exUT:=⟨_,rfl⟩
 rw [← hT] at CP
 have hP:parseU T=([exU],0,0):=by rw [hT,parse_ex]
 have f1:(T.toList == [64,64,32,45,49,44,49,32,43,49,44,49,32,64,64,10,45,97,10,43,98,10,92,32,78,111,32,110,101,119,108,105,110,101,32,97,116,32,101,110,100,32,111,102,32,102,105,108,101,10])=true:=by rw [hT];decide +kernel
 have hTs:T.size≤1073741824:=by rw [hT];decide
 clear hT
 have CQ:=Aside0.mk (show ∀ W,LaidU W→Calls Tryd.prog 12 #[.string T] W fun e w'=>∃ B c,e=.returned (.tuple #[.slice B 1 c,.int .i64 0,.int .i64 0])∧1≤c∧Kd.C k41 w' B 1 [exU]∧Below W.heap.size W w' from fun W h=>by
  have h1:=parse_calls T hTs W h
  unfold ParseEnd at h1
  rw [hP] at h1
  exact h1)
 have CX:=Aside0.mk (show ∀ W,LaidU W→Calls Tryd.prog 12 #[.string ⟨#[120]⟩] W fun e w'=>∃ B c,e=.returned (.tuple #[.slice B 0 c,.int .i64 1,.int .i64 3])∧Below W.heap.size W w' from fun W h =>
  (parse_calls (⟨#[120]⟩:ByteArray) (by decide) W h).mono fun e w' ⟨B,c,h1,_,_,h2⟩=>⟨B,c,by rw [h1,parse_x];rfl,h2⟩)
 clear hP hTs HB1
 go_upto_region 3 with (go_at_call 10;(with_reducible refine CP.out.mono ?_);rintro e w2 ⟨rfl,hb⟩;have HB3:=Aside0.mk (below_step HB2.out hb);have HK3:=Aside0.mk (below_step HK2.out hb);clear hb)
 have HL3:=Aside0.mk (HL.out.below HB3.out)
 go_upto_region 4 with (go_at_call 12;(with_reducible refine (CQ.out _ HL3.out).mono ?_);rintro e w3 ⟨B3,c3,rfl,hc3,hr3,hb⟩;have HC3:=Aside0.mk hc3;have HR3:=Aside0.mk hr3;have HB4:=Aside0.mk (below_step HB3.out hb);have HK4:=Aside0.mk (below_step HK3.out hb);clear hb hc3 hr3)
 have HL4:=Aside0.mk (HL.out.below HB4.out)
 go_upto_region 5 with (go_at_call 12;(with_reducible refine (CX.out _ HL4.out).mono ?_);rintro e w4 ⟨B4,c4,rfl,hb⟩;have HB5:=Aside0.mk (below_step HB4.out hb);have HK5:=Aside0.mk (below_step HK4.out hb);have HR4:=Aside0.mk (Kd.C_below HR3.out hb);clear hb)
 have y0:=pw_cell_below HK5.out z0
 have y1:=pw_cell_below HK5.out z1
 have y2:=pw_cell_below HK5.out z2
 have y3:=pw_cell_below HK5.out z3
 have y4:=pw_cell_below HK5.out z4
 clear z0 z1 z2 z3 z4
 have HS5:=Aside0.mk (Kd.C_below HS1.out HK5.out)
 obtain ⟨ks,hks⟩:=(SameH_ev [exU] (by decide) (by decide)).rounds
 have CS:=Aside0.mk (show Calls Tryd.prog 14 #[.slice B3 1 c3,.slice (some ⟨w4.heap.size,0,none⟩) 1 1] (w4.alloc (.cells #[.int .i64 0,.int .i64 1,.int .i64 0,.int .i64 1,.slice A 2 2] 41 (0,0))) fun e w'=>e=.returned (.bool true)∧Below (w4.alloc (.cells #[.int .i64 0,.int .i64 1,.int .i64 0,.int .i64 1,.slice A 2 2] 41 (0,0))).heap.size (w4.alloc (.cells #[.int .i64 0,.int .i64 1,.int .i64 0,.int .i64 1,.slice A 2 2] 41 (0,0))) w' from
  r05_Same.calls ks B3 c3 [exU] (some ⟨w4.heap.size,0,none⟩) 1 [exU] true (w4.alloc (.cells #[.int .i64 0,.int .i64 1,.int .i64 0,.int .i64 1,.slice A 2 2] 41 (0,0))) (Kd.C_alloc HR4.out _) HC3.out (hC w4 HS5.out) (by decide) hks)
 have HB6:=Aside0.mk (below_alloc HB5.out (.cells #[.int .i64 0,.int .i64 1,.int .i64 0,.int .i64 1,.slice A 2 2] 41 (0,0)))
 clear hks hC hF
 go_wp2_with (go_at_call 14;(with_reducible refine CS.out.mono ?_);rintro e w5 ⟨rfl,hb⟩;have HB7:=Aside0.mk (below_step HB6.out hb);clear hb)
 go_ret
 exact ⟨rfl,HB7.out⟩
end Go.Proofs.YtamojbfmphainaaDoor.Pr
-- shrunk
/-
Hunks as lines, in plain Lean: what is printed is made of lines; a head that is printed is read again.
-/
namespace Go.Proofs.YtamojbfmphainaaDoor.Pr
open Go.RowKit Go.Proofs.YtamojbfmphainaaDoorW.PrintWords Go.Proofs.YtamojbfmphainaaDoorW.PrintLast Go.Proofs.YtamojbfmphainaaDoorW.PrintMore
def IsLn (t:ByteArray):Prop:=∃ x,t.data.toList=x++[10]∧¬ (10:UInt8) ∈ x
theorem IsLn.closed {t:ByteArray} (h:IsLn t):closedL t.data.toList=true:=by
 obtain ⟨x,e,_⟩:=h
 rw [e,closedL];simp
def bytesL (L:List ByteArray):List UInt8:=L.flatMap (·.data.toList)
theorem bytesL_append (a b:List ByteArray):bytesL (a++b)=bytesL a++bytesL b:=by unfold bytesL;rw [List.flatMap_append]
theorem bytesL_cons (t:ByteArray) (b:List ByteArray):bytesL (t :: b)=t.data.toList++bytesL b:=rfl
def bodyT:List ByteArray→List ByteArray
 | []=>[]
 | s :: r=>(if closedL s.data.toList=true then [s] else [s++(⟨#[10]⟩:ByteArray),openB])++bodyT r
def toldH (x:Hk):List ByteArray:=headOf x :: bodyT x.f4
def toldL (l:List Hk):List ByteArray:=l.flatMap toldH
theorem dec_range:∀ (u:Nat),∀ c ∈ Lib.decDigits u,48≤c.toNat∧c.toNat≤57:=by
 intro u
 induction u using Nat.strongRecOn with
 | ind u ih =>
  intro c hc
  rw [Lib.decDigits] at hc
  split at hc
  ·obtain rfl:=List.mem_singleton.1 hc
   rw [UInt8.toNat_ofNat'];omega
  ·rcases List.mem_append.1 hc with hc|hc
   ·exact ih (u / 10) (by omega) c hc
   ·obtain rfl:=List.mem_singleton.1 hc
    rw [UInt8.toNat_ofNat'];omega
theorem parse_append:∀ (l:List UInt8) (acc v:Nat) (c:UInt8),Lib.parseUint10 acc l=.ok v→v<1844674407370955161→48≤c.toNat∧c.toNat≤57→Lib.parseUint10 acc (l++[c])=.ok (v * 10+(c.toNat - 48))
 | [],acc,v,c,h,hv,hc=>by
  rw [Lib.parseUint10] at h
  injection h with h
  subst h
  rw [List.nil_append,Lib.parseUint10,if_pos hc,if_neg (by omega),if_neg (by omega),Lib.parseUint10]
 | b :: l,acc,v,c,h,hv,hc=>by
  rw [Lib.parseUint10] at h
  rw [List.cons_append,Lib.parseUint10]
  split at h
  ·rename_i h1
   split at h
   ·cases h
   ·rename_i h2
    split at h
    ·cases h
    ·rename_i h3
     rw [if_pos h1,if_neg h2,if_neg h3]
     exact parse_append l _ v c h hv hc
  ·cases h
theorem parse_dec:∀ (u:Nat),u<1844674407370955161→Lib.parseUint10 0 (Lib.decDigits u)=.ok u:=by
 intro u
 induction u using Nat.strongRecOn with
 | ind u ih =>
  intro hu
  by_cases h:u<10
  ·rw [Lib.decDigits_one h,Lib.parseUint10,if_pos (by rw [UInt8.toNat_ofNat'];omega),if_neg (by omega),if_neg (by rw [UInt8.toNat_ofNat'];omega),Lib.parseUint10,UInt8.toNat_ofNat']
   congr 1;omega
  ·rw [Lib.decDigits,dif_neg h,parse_append _ _ _ _ (ih (u / 10) (by omega) (by omega)) (by omega) (by rw [UInt8.toNat_ofNat'];omega),UInt8.toNat_ofNat']
   congr 1;omega
theorem dec_ne (u:Nat):Lib.decDigits u≠[]:=by
 rw [Lib.decDigits];split<;>simp
theorem atoi_dec (u:Nat) (hu:u<2147483648):Lib.atoiAll (Lib.decDigits u)=.ok (u:Int):=by
 have hp:=parse_dec u (by omega)
 have hr:=dec_range u
 have hne:=dec_ne u
 generalize Lib.decDigits u=d at hp hr hne
 rcases d with _|⟨c,r⟩
 ·exact absurd rfl hne
 ·have hc:=hr c List.mem_cons_self
  unfold Lib.atoiAll Lib.parseMag
  have n43:¬ c.toNat=43:=by omega
  have n45:¬ c.toNat=45:=by omega
  simp only [n43,n45,or_self,if_false,reduceCtorEq,hp,not_false_eq_true,true_and,false_and]
  rw [if_neg (by omega)]
theorem numB_itoa (n:Int) (h0:0≤n) (h1:n<2147483648):numB (itoaB n)=some n:=by
 obtain ⟨u,rfl⟩:∃ u:Nat,n=u:=⟨n.toNat,by omega⟩
 have e:(itoaB (u:Int)).data.toList=Lib.decDigits u:=by
  unfold itoaB;rw [Lib.itoa_nonneg]
 unfold numB
 rw [e,atoi_dec u (by omega)]
 simp only [h0,h1,and_self,if_true]
theorem itoaB_range (n:Int) (h0:0≤n):∀ c ∈ (itoaB n).data.toList,48≤c.toNat∧c.toNat≤57:=by
 obtain ⟨u,rfl⟩:∃ u:Nat,n=u:=⟨n.toNat,by omega⟩
 have e:(itoaB (u:Int)).data.toList=Lib.decDigits u:=by
  unfold itoaB;rw [Lib.itoa_nonneg]
 rw [e];exact dec_range u
theorem cut_at (a b sep:List UInt8) (c:UInt8) (q:List UInt8) (hs:sep=c :: q) (ha:¬ c ∈ a):Lib.cut (a++sep++b) sep=(a,b,true):=by
 have hi:Lib.index (a++sep++b) sep=(a.length:Int):=by
  refine Lib.index_first (by simp) ?_ (fun j hj=>?_)
  ·unfold Lib.occAt
   rw [List.append_assoc,List.drop_left,List.isPrefixOf_iff_prefix]
   exact List.prefix_append _ _
  ·unfold Lib.occAt
   rw [List.append_assoc,List.drop_append_of_le_length (by omega),hs]
   rcases hd:a.drop j with _|⟨d,e⟩
   ·have:=congrArg List.length hd;rw [List.length_drop] at this;simp at this;omega
   ·have hm:d ∈ a:=List.mem_of_mem_drop (i:=j) (by rw [hd];exact List.mem_cons_self)
    have hne:c≠d:=fun e2=>ha (e2 ▸ hm)
    simp [List.isPrefixOf,hne]
 unfold Lib.cut
 rw [hi,if_pos (by omega)]
 simp only [Int.toNat_natCast,List.append_assoc]
 rw [List.take_left,← List.append_assoc,← List.length_append,List.drop_left]
theorem sideB_from (a b:Int) (h0:0≤a) (h1:firstI a b<2147483648) (h2:0≤b) (h3:b<2147483648):sideB (fromB a b)=some (a,b):=by
 have hf:0≤firstI a b:=by unfold firstI;split<;>omega
 have e:(fromB a b).data.toList=(itoaB (firstI a b)).data.toList++[44]++(itoaB b).data.toList:=by
  unfold fromB;simp only [ByteArray.data_append,Array.toList_append]
 have hc:=cut_at (itoaB (firstI a b)).data.toList (itoaB b).data.toList [44] 44 [] rfl (fun h=>by have:=itoaB_range _ hf _ h;have e4:(44:UInt8).toNat=44:=rfl;omega)
 rw [← e] at hc
 unfold sideB cutIs cutA cutC
 rw [hc]
 simp only [if_true]
 rw [show (⟨(itoaB (firstI a b)).data.toList.toArray⟩:ByteArray)=itoaB (firstI a b) from rfl,show (⟨(itoaB b).data.toList.toArray⟩:ByteArray)=itoaB b from rfl,numB_itoa _ hf h1,numB_itoa _ h2 h3]
 simp only
 rw [if_neg (by unfold firstI;split<;>omega)]
 congr 1
 unfold firstI
 split<;>simp<;>omega
theorem fromB_no (a b:Int) (h0:0≤a) (h2:0≤b) (c:UInt8) (hc:c.toNat<44):¬ c ∈ (fromB a b).data.toList:=by
 have hf:0≤firstI a b:=by unfold firstI;split<;>omega
 have e:(fromB a b).data.toList=(itoaB (firstI a b)).data.toList++[44]++(itoaB b).data.toList:=by
  unfold fromB;simp only [ByteArray.data_append,Array.toList_append]
 rw [e]
 intro h
 rcases List.mem_append.1 h with h|h
 ·rcases List.mem_append.1 h with h|h
  ·have:=itoaB_range _ hf _ h;omega
  ·obtain rfl:=List.mem_singleton.1 h;exact absurd hc (by decide)
 ·have:=itoaB_range _ h2 _ h;omega
theorem pre_at (p r:List UInt8):Lib.hasPrefix (p++r) p=true∧Lib.trimPrefix (p++r) p=r:=by
 have h:Lib.hasPrefix (p++r) p=true:=by unfold Lib.hasPrefix;rw [List.isPrefixOf_iff_prefix];exact List.prefix_append _ _
 exact ⟨h,by unfold Lib.trimPrefix;rw [if_pos h,List.drop_left]⟩
theorem suf_at (r p:List UInt8):Lib.hasSuffix (r++p) p=true∧Lib.trimSuffix (r++p) p=r:=by
 have h:Lib.hasSuffix (r++p) p=true:=by unfold Lib.hasSuffix;rw [List.isSuffixOf_iff_suffix];exact List.suffix_append _ _
 exact ⟨h,by unfold Lib.trimSuffix;rw [if_pos h,List.length_append,Nat.add_sub_cancel,List.take_left]⟩
structure HeadOk (x:Hk):Prop where
 a0:0≤x.f0
 a1:firstI x.f0 x.f1<2147483648
 b0:0≤x.f1
 b1:x.f1<2147483648
 c0:0≤x.f2
 c1:firstI x.f2 x.f3<2147483648
 d0:0≤x.f3
 d1:x.f3<2147483648
theorem headOf_bytes (x:Hk):(headOf x).data.toList=[64,64,32,45]++(((fromB x.f0 x.f1).data.toList++[32,43]++(fromB x.f2 x.f3).data.toList)++[32,64,64,10]):=by
 unfold headOf
 simp only [ByteArray.data_append,Array.toList_append,List.append_assoc]
 rfl
theorem head_at (x:Hk) (h:HeadOk x):headB (headOf x)=some ⟨x.f0,x.f1,x.f2,x.f3,[]⟩:=by
 obtain ⟨p1,p2⟩:=pre_at [64,64,32,45] (((fromB x.f0 x.f1).data.toList++[32,43]++(fromB x.f2 x.f3).data.toList)++[32,64,64,10])
 obtain ⟨s1,s2⟩:=suf_at ((fromB x.f0 x.f1).data.toList++[32,43]++(fromB x.f2 x.f3).data.toList) [32,64,64,10]
 have hc:=cut_at (fromB x.f0 x.f1).data.toList (fromB x.f2 x.f3).data.toList [32,43] 32 [43] rfl (fromB_no _ _ h.a0 h.b0 32 (by decide))
 rw [← headOf_bytes] at p1 p2
 have e1:(preB (headOf x) [64,64,32,45]).data.toList=(fromB x.f0 x.f1).data.toList++[32,43]++(fromB x.f2 x.f3).data.toList++[32,64,64,10]:=p2
 have e2:(headT (headOf x)).data.toList=(fromB x.f0 x.f1).data.toList++[32,43]++(fromB x.f2 x.f3).data.toList:=by
  unfold headT sufB
  show Lib.trimSuffix _ _=_
  rw [e1,s2]
 unfold headB cutIs cutA cutC
 rw [e1,e2,hc,if_pos ⟨p1,s1,rfl⟩]
 show (match sideB (fromB x.f0 x.f1),sideB (fromB x.f2 x.f3) with|some p,some q=>some (⟨p.1,p.2,q.1,q.2,[]⟩:Hk)|_,_=>none)=_
 rw [sideB_from _ _ h.a0 h.a1 h.b0 h.b1,sideB_from _ _ h.c0 h.c1 h.d0 h.d1]
theorem canH_ok {x:Hk} (h:canH x=true):HeadOk x∧okL false x.f4=true∧x.f1=manyL 45 x.f4∧x.f3=manyL 43 x.f4∧∀ s ∈ x.f4,noNl s=true:=by
 unfold canH bndH at h
 rw [Bool.and_eq_true,Bool.and_eq_true,decide_eq_true_eq,List.all_eq_true] at h
 obtain ⟨h1,h2,h3,h4,h5,h6⟩:=h
 obtain ⟨r1,r2,r3,r4,r5⟩:=of_decide_eq_true h2
 exact ⟨⟨r2,h3,by omega,h4,r3,h5,by omega,h6⟩,r1,r4,r5,h1⟩
end Go.Proofs.YtamojbfmphainaaDoor.Pr
-- shrunk
/-
What is printed is parsed, in plain Lean.
-/
namespace Go.Proofs.YtamojbfmphainaaDoor.Pr
open Go.RowKit Go.Proofs.YtamojbfmphainaaDoorW.PrintWords Go.Proofs.YtamojbfmphainaaDoorW.PrintLast Go.Proofs.YtamojbfmphainaaDoorW.PrintMore
theorem bt_head (s:ByteArray) (c:UInt8) (r:List UInt8) (h:s.data.toList=c :: r):bt s 0=(c.toNat:Int):=by
 have hs:0<s.size:=by
  have e:s.data.toList.length=s.size:=rfl
  rw [h] at e;simp at e;omega
 unfold bt
 rw [dif_pos (show (0:Int).toNat<s.size from hs)]
 have e:s[(0:Int).toNat]'hs=s.data.toList[0]'(hs):=rfl
 rw [e]
 congr 1
 congr 1
 simp [h]
theorem bt_app (s t:ByteArray) (hs:0<s.size):bt (s++t) 0=bt s 0:=by
 have e:s.data.toList.length=s.size:=rfl
 rcases h:s.data.toList with _|⟨c,r⟩
 ·rw [h] at e;simp at e;omega
 ·rw [bt_head s c r h,bt_head (s++t) c (r++t.data.toList) (by rw [ByteArray.data_append,Array.toList_append,h];rfl)]
theorem chop_nl (s:ByteArray):chopB (s++(⟨#[10]⟩:ByteArray))=s:=by
 unfold chopB
 rw [ByteArray.data_append,Array.toList_append,(suf_at s.data.toList [10]).2]
theorem last_at (l:List Hk) (y:Hk):(l++[y])[(l++[y]).length - 1]?=some y:=by simp
theorem set_at (l:List Hk) (y z:Hk):(l++[y]).set ((l++[y]).length - 1) z=l++[z]:=by
 rw [List.length_append,List.length_singleton,Nat.add_sub_cancel,List.set_append_right _ _ (Nat.le_refl _),Nat.sub_self];rfl
theorem open_step (l:List Hk) (y:Hk) (d:List ByteArray) (s:ByteArray) (an bn:Int) (hy:y.f4=d++[s++(⟨#[10]⟩:ByteArray)]) :
  stepP ⟨l++[y],an,bn,false⟩ openB=some ⟨l++[{ y with f4:=d++[s] }],an,bn,true⟩:=by
 unfold stepP
 rw [if_pos ⟨rfl,rfl⟩]
 simp only
 unfold chopL
 rw [last_at]
 simp only
 rw [set_at]
 unfold chopH
 have e:y.f4.length - 1=d.length:=by rw [hy];simp
 have e2:rdOf ByteArray.empty y.f4 ((d.length:Nat):Int)=s++(⟨#[10]⟩:ByteArray):=by
  rw [rdS_at (by rw [hy];simp)]
  simp [hy]
 rw [e,e2,chop_nl,hy,List.set_append_right _ _ (Nat.le_refl _),Nat.sub_self]
 rfl
theorem went_snoc (d:List ByteArray) (s:ByteArray):wentB (d++[s])=decide (bt s 0=43):=by
 unfold wentB
 rw [List.getLast?_append]
 simp only [List.getLast?_singleton,Option.some_or]
 rw [Bool.eq_iff_iff,beq_iff_eq,decide_eq_true_iff]
theorem parseL_step {st st':PS} {t:ByteArray} (r:List ByteArray) (i:Nat) (h:stepP st t=some st'):parseL (t :: r) i st=parseL r (i+1) st':=by
 rw [parseL,h]
end Go.Proofs.YtamojbfmphainaaDoor.Pr
-- shrunk
/-
What is parsed, printed, is the text again, in plain Lean.
-/
namespace Go.Proofs.YtamojbfmphainaaDoor.Pr
open Go.RowKit Go.Proofs.YtamojbfmphainaaDoorW.PrintWords Go.Proofs.YtamojbfmphainaaDoorW.PrintLast Go.Proofs.YtamojbfmphainaaDoorW.PrintMore
theorem cut_back {s sep a b:List UInt8} (h:Lib.cut s sep=(a,b,true)):s=a++sep++b:=by
 unfold Lib.cut at h
 rcases Lib.index_spec s sep with ⟨e,_⟩|⟨i,e,hi,ho,_⟩
 ·rw [e,if_neg (by decide)] at h
  exact absurd (congrArg (·.2.2) h) (by simp)
 ·rw [e,if_pos (by omega)] at h
  simp only [Int.toNat_natCast,Prod.mk.injEq,and_true] at h
  unfold Lib.occAt at ho
  rw [List.isPrefixOf_iff_prefix] at ho
  obtain ⟨r,hr⟩:=ho
  have e2:s.drop (i+sep.length)=r:=by rw [← List.drop_drop,← hr,List.drop_left]
  rw [← h.1,← h.2,e2,List.append_assoc,hr,List.take_append_drop]
theorem cutB_back {s:ByteArray} {sep:List UInt8} (h:cutIs s sep=true):s.data.toList=(cutA s sep).data.toList++sep++(cutC s sep).data.toList:=by
 unfold cutIs at h
 exact cut_back (s:=s.data.toList) (sep:=sep) (a:=(Lib.cut s.data.toList sep).1) (b:=(Lib.cut s.data.toList sep).2.1) (by rw [← h])
theorem sideB_back {u:ByteArray} {p:Int × Int} (h:sideB u=some p):fromB p.1 p.2=u∧0≤p.1∧firstI p.1 p.2<2147483648∧0≤p.2∧p.2<2147483648:=by
 unfold sideB at h
 split at h
 ·rename_i hc
  have hb:=cutB_back hc
  rcases hx:numB (cutA u [44]) with _|x
  ·rw [hx] at h;cases h
  ·rcases hy:numB (cutC u [44]) with _|y
   ·rw [hx,hy] at h;cases h
   ·rw [hx,hy] at h
    simp only at h
    obtain ⟨x0,x1,xe⟩:=numB_range hx
    obtain ⟨y0,y1,ye⟩:=numB_range hy
    split at h
    ·cases h
    ·rename_i hn
     obtain rfl:=Option.some.inj h
     have ef:firstI (if y > 0 then x - 1 else x) y=x:=by unfold firstI;split<;>simp_all
     refine ⟨?_,?_,?_,y0,y1⟩
     ·simp only
      unfold fromB
      rw [ef,xe,ye]
      apply ByteArray.ext
      apply Array.toList_inj.1
      simp only [ByteArray.data_append,Array.toList_append]
      exact hb.symm
     ·simp only;split<;>omega
     ·simp only;rw [ef];exact x1
 ·cases h
theorem headB_back {t:ByteArray} {h:Hk} (e:headB t=some h):headOf h=t∧HeadOk h∧h.f4=[]:=by
 unfold headB at e
 split at e
 ·rename_i hc
  obtain ⟨h1,h2,h3⟩:=hc
  rcases hp:sideB (cutA (headT t) [32,43]) with _|p
  ·rw [hp] at e;cases e
  ·rcases hq:sideB (cutC (headT t) [32,43]) with _|q
   ·rw [hp,hq] at e;cases e
   ·rw [hp,hq] at e
    obtain rfl:=Option.some.inj e
    obtain ⟨p1,p2,p3,p4,p5⟩:=sideB_back hp
    obtain ⟨q1,q2,q3,q4,q5⟩:=sideB_back hq
    refine ⟨?_,⟨p2,p3,p4,p5,q2,q3,q4,q5⟩,rfl⟩
    have hb:=cutB_back h3
    have e1:t.data.toList=[64,64,32,45]++(preB t [64,64,32,45]).data.toList:=by
     unfold Lib.hasPrefix at h1
     obtain ⟨r,hr⟩:=List.isPrefixOf_iff_prefix.1 h1
     show _=_++Lib.trimPrefix t.data.toList [64,64,32,45]
     rw [← hr,(pre_at _ _).2]
    have e2:(preB t [64,64,32,45]).data.toList=(headT t).data.toList++[32,64,64,10]:=by
     unfold Lib.hasSuffix at h2
     obtain ⟨r,hr⟩:=List.isSuffixOf_iff_suffix.1 h2
     show _=Lib.trimSuffix (preB t [64,64,32,45]).data.toList [32,64,64,10]++_
     rw [← hr,(suf_at _ _).2]
    apply ByteArray.ext
    apply Array.toList_inj.1
    rw [headOf_bytes,e1,e2,hb,← p1,← q1]
 ·cases e
theorem okL_snoc:∀ (L:List ByteArray) (came:Bool) (t:ByteArray),okL came (L++[t])=(okL came L && decide (0<t.size∧(bt t 0=32∨bt t 0=43∨bt t 0=45)∧¬ (bt t 0=45∧(if L=[] then came else wentB L)=true)))
 | [],came,t=>by simp [okL]
 | s :: L,came,t=>by
  rw [List.cons_append,okL,okL,okL_snoc L _ t,Bool.and_assoc]
  congr 3
  have e:(if L=[] then decide (bt s 0=43) else wentB L)=(if s :: L=[] then came else wentB (s :: L)):=by
   rcases L with _|⟨u,r⟩
   ·rw [if_pos rfl,if_neg (by simp)];exact (went_snoc [] s).symm
   ·rw [if_neg (by simp),if_neg (by simp)];unfold wentB;rw [List.getLast?_cons_cons]
  rw [e]
theorem manyL_snoc (z:Int):∀ (L:List ByteArray) (t:ByteArray),manyL z (L++[t])=manyL z L+(if 0<t.size∧(bt t 0=32∨bt t 0=z) then 1 else 0)
 | [],t=>by simp [manyL]
 | s :: L,t=>by rw [List.cons_append,manyL,manyL,manyL_snoc z L t,Nat.add_assoc]
theorem bodyT_append:∀ (a b:List ByteArray),bodyT (a++b)=bodyT a++bodyT b
 | [],b=>rfl
 | s :: a,b=>by rw [List.cons_append,bodyT,bodyT,bodyT_append a b,List.append_assoc]
theorem toldL_snoc (l:List Hk) (y:Hk):toldL (l++[y])=toldL l++(headOf y :: bodyT y.f4):=by
 unfold toldL;rw [List.flatMap_append];simp [toldH]
theorem canH_of {x:Hk} (h:HeadOk x) (hk:okL false x.f4=true) (e1:x.f1=manyL 45 x.f4) (e3:x.f3=manyL 43 x.f4) (hn:∀ s ∈ x.f4,noNl s=true):canH x=true:=by
 unfold canH
 rw [Bool.and_eq_true,Bool.and_eq_true,List.all_eq_true]
 exact ⟨hn,decide_eq_true ⟨hk,h.a0,h.c0,e1,e3⟩,decide_eq_true ⟨h.a1,h.b1,h.c1,h.d1⟩⟩
structure LastOk (st:PS) (l:List Hk) (y:Hk):Prop where
 at_:st.l=l++[y]
 can:∀ x ∈ l,canH x=true
 head:HeadOk y
 ok:okL false y.f4=true
 nl:∀ s ∈ y.f4,noNl s=true
 an:y.f1=manyL 45 y.f4+st.an
 bn:y.f3=manyL 43 y.f4+st.bn
 open_:st.bare=false→∃ d s,y.f4=d++[s++(⟨#[10]⟩:ByteArray)]∧0<s.size∧¬ (10:UInt8) ∈ s.data.toList
structure Back (C:List ByteArray) (st:PS):Prop where
 a0:0≤st.an
 b0:0≤st.bn
 text:bytesL (toldL st.l)=bytesL C
 last:(st.l=[]∧st.an=0∧st.bn=0∧st.bare=true)∨∃ l y,LastOk st l y
theorem Back.all {C:List ByteArray} {st:PS} (h:Back C st) (ha:st.an=0) (hb:st.bn=0):∀ x ∈ st.l,canH x=true:=by
 intro x hx
 rcases h.last with ⟨e,_⟩|⟨l,y,k⟩
 ·rw [e] at hx;cases hx
 ·rw [k.at_] at hx
  rcases List.mem_append.1 hx with hx|hx
  ·exact k.can x hx
  ·obtain rfl:=List.mem_singleton.1 hx
   exact canH_of k.head k.ok (by rw [k.an,ha,Int.add_zero]) (by rw [k.bn,hb,Int.add_zero]) k.nl
theorem not_closed {s:ByteArray} (h0:0<s.size) (h:¬ (10:UInt8) ∈ s.data.toList):closedL s.data.toList≠true:=by
 have hlen:s.data.toList.length=s.size:=rfl
 intro hc
 unfold closedL at hc
 rw [Bool.or_eq_true,decide_eq_true_eq,beq_iff_eq] at hc
 rcases hc with e|e
 ·rw [e] at hlen;simp at hlen;omega
 ·exact h (List.mem_of_getLast? e)
theorem noNl_of {s:ByteArray} (h:¬ (10:UInt8) ∈ s.data.toList):noNl s=true:=decide_eq_true (fun hm=>h (List.dropLast_subset _ hm))
theorem line_open {t:ByteArray} (hn:noNl t=true) (h0:0<t.size) (hc:closedL t.data.toList=true) (h1:bt t 0≠10):∃ s:ByteArray,t=s++(⟨#[10]⟩:ByteArray)∧0<s.size∧¬ (10:UInt8) ∈ s.data.toList:=by
 have hlen:t.data.toList.length=t.size:=rfl
 have hne:t.data.toList≠[]:=by intro e;rw [e] at hlen;simp at hlen;omega
 have hd:=List.dropLast_concat_getLast hne
 have hl:t.data.toList.getLast hne=10:=by
  unfold closedL at hc
  rw [Bool.or_eq_true,decide_eq_true_eq,beq_iff_eq,List.getLast?_eq_some_getLast hne] at hc
  rcases hc with hc|hc
  ·exact absurd hc hne
  ·exact Option.some.inj hc
 rw [hl] at hd
 refine ⟨⟨t.data.toList.dropLast.toArray⟩,?_,?_,of_decide_eq_true hn⟩
 ·apply ByteArray.ext
  apply Array.toList_inj.1
  rw [ByteArray.data_append,Array.toList_append]
  exact hd.symm
 ·show 0<(t.data.toList.dropLast.toArray).size
  rw [List.size_toArray]
  rcases hx:t.data.toList.dropLast with _|⟨c,r⟩
  ·rw [hx] at hd
   exact absurd (bt_head t 10 [] hd.symm) h1
  ·simp
theorem Back.step {C:List ByteArray} {st st':PS} {t:ByteArray} (h:Back C st) (hn:noNl t=true) (h0:0<t.size) (e:stepP st t=some st'):Back (C++[t]) st':=by
 obtain ⟨L,an,bn,bare⟩:=st
 unfold stepP at e
 split at e
 ·rename_i hc
  obtain ⟨rfl,hb⟩:=hc
  simp only at hb
  subst hb
  rcases h.last with ⟨_,_,_,e4⟩|⟨l,y,k⟩
  ·cases e4
  ·obtain ⟨d,s,hy,hs0,hs10⟩:=k.open_ rfl
   have hL:L=l++[y]:=k.at_
   subst hL
   have hst:=open_step l y d s an bn hy
   unfold stepP at hst
   rw [if_pos ⟨rfl,rfl⟩] at hst
   have e3:=hst.symm.trans e
   obtain rfl:=Option.some.inj e3
   have hb0:bt (s++(⟨#[10]⟩:ByteArray)) 0=bt s 0:=bt_app _ _ hs0
   have hz:0<(s++(⟨#[10]⟩:ByteArray)).size:=by rw [ByteArray.size_append];omega
   have hok:=k.ok
   have han:=k.an
   have hbn:=k.bn
   rw [hy] at hok han hbn
   refine ⟨h.a0,h.b0,?_,.inr ⟨l,{ y with f4:=d++[s] },rfl,k.can,⟨k.head.a0,k.head.a1,k.head.b0,k.head.b1,k.head.c0,k.head.c1,k.head.d0,k.head.d1⟩,?_,?_,?_,?_,fun hb=>by cases hb⟩⟩
   ·have ht:=h.text
    simp only at ht ⊢
    rw [bytesL_append,← ht,toldL_snoc,toldL_snoc,hy,bodyT_append,bodyT_append]
    rw [show bodyT [s++(⟨#[10]⟩:ByteArray)]=[s++(⟨#[10]⟩:ByteArray)] by rw [bodyT,if_pos (by rw [ByteArray.data_append,Array.toList_append,closedL];simp)];rfl]
    rw [show bodyT [s]=[s++(⟨#[10]⟩:ByteArray),openB] by rw [bodyT,if_neg (not_closed hs0 hs10)];rfl]
    simp only [bytesL_append,bytesL_cons,List.append_assoc,List.cons_append,List.nil_append]
    rfl
   ·rw [okL_snoc,hb0] at hok
    simp only
    rw [okL_snoc]
    simp only [hz,hs0,true_and] at hok ⊢
    exact hok
   ·intro u hu
    rcases List.mem_append.1 hu with hu|hu
    ·exact k.nl u (by rw [hy];exact List.mem_append_left _ hu)
    ·obtain rfl:=List.mem_singleton.1 hu;exact noNl_of hs10
   ·simp only
    rw [manyL_snoc,hb0] at han
    rw [manyL_snoc]
    simp only [hz,hs0,true_and] at han ⊢
    exact han
   ·simp only
    rw [manyL_snoc,hb0] at hbn
    rw [manyL_snoc]
    simp only [hz,hs0,true_and] at hbn ⊢
    exact hbn
 ·rename_i hno
  simp only at e
  split at e
  ·rename_i hz
   obtain ⟨rfl,rfl⟩:=hz
   rcases hh:headB t with _|x
   ·rw [hh] at e;cases e
   ·rw [hh,Option.map_some] at e
    obtain rfl:=Option.some.inj e
    obtain ⟨x1,x2,x3⟩:=headB_back hh
    refine ⟨x2.b0,x2.d0,?_,.inr ⟨L,x,rfl,h.all rfl rfl,x2,by rw [x3];rfl,(fun s hs=>by rw [x3] at hs;cases hs),by simp [x3,manyL],by simp [x3,manyL],fun hb=>by cases hb⟩⟩
    have ht:=h.text
    simp only at ht ⊢
    rw [bytesL_append,← ht,toldL_snoc,x3,x1,bytesL_append]
    rfl
  ·rename_i hz
   rcases h.last with ⟨e1,e2,e3,_⟩|⟨l,y,k⟩
   ·exact absurd ⟨e2,e3⟩ hz
   ·have hL:L=l++[y]:=k.at_
    subst hL
    rw [last_at] at e
    simp only at e
    split at e
    ·rename_i hr
     obtain ⟨a,b,hs,hcl,ha,hb⟩:=lineR_some hr
     rw [hs,Option.map_some] at e
     obtain rfl:=Option.some.inj e
     have ead:addL (l++[y]) ((l++[y]).length - 1) t=l++[{ y with f4:=y.f4++[t] }]:=by
      unfold addL;rw [last_at];simp only;rw [set_at]
     have hsg:(bt t 0=32∧an=a+1∧bn=b+1)∨(bt t 0=45∧wentB y.f4=false∧an=a+1∧bn=b)∨(bt t 0=43∧an=a∧bn=b+1):=by
      unfold stepL at hs
      split at hs
      ·rename_i h1
       have:=Option.some.inj hs
       simp only [Prod.mk.injEq] at this
       exact .inl ⟨h1,by omega,by omega⟩
      ·split at hs
       ·rename_i h1
        split at hs
        ·cases hs
        ·rename_i h2
         have:=Option.some.inj hs
         simp only [Prod.mk.injEq] at this
         exact .inr (.inl ⟨h1,Bool.eq_false_iff.2 h2,by omega,by omega⟩)
       ·split at hs
        ·rename_i h1
         have:=Option.some.inj hs
         simp only [Prod.mk.injEq] at this
         exact .inr (.inr ⟨h1,by omega,by omega⟩)
        ·cases hs
     have han:=k.an
     have hbn:=k.bn
     simp only at han hbn
     refine ⟨ha,hb,?_,.inr ⟨l,{ y with f4:=y.f4++[t] },ead,k.can,⟨k.head.a0,k.head.a1,k.head.b0,k.head.b1,k.head.c0,k.head.c1,k.head.d0,k.head.d1⟩,?_,?_,?_,?_,fun _=>?_⟩⟩
     ·have ht:=h.text
      simp only at ht ⊢
      rw [bytesL_append,← ht,ead,toldL_snoc,toldL_snoc,bodyT_append]
      rw [show bodyT [t]=[t] by rw [bodyT,if_pos hcl];rfl]
      simp only [bytesL_append,bytesL_cons,List.append_assoc]
      rfl
     ·simp only
      rw [okL_snoc,k.ok,Bool.true_and,decide_eq_true_eq]
      refine ⟨h0,by omega,fun hw=>?_⟩
      obtain ⟨w1,w2⟩:=hw
      rcases hsg with ⟨g,_⟩|⟨_,g,_⟩|⟨g,_⟩
      ·omega
      ·split at w2
       ·cases w2
       ·rw [g] at w2;cases w2
      ·omega
     ·intro u hu
      rcases List.mem_append.1 hu with hu|hu
      ·exact k.nl u hu
      ·obtain rfl:=List.mem_singleton.1 hu;exact hn
     ·simp only
      rw [manyL_snoc]
      simp only [h0,true_and]
      rcases hsg with ⟨g,_⟩|⟨g,_⟩|⟨g,_⟩<;>rw [g]<;>simp<;>omega
     ·simp only
      rw [manyL_snoc]
      simp only [h0,true_and]
      rcases hsg with ⟨g,_⟩|⟨g,_⟩|⟨g,_⟩<;>rw [g]<;>simp<;>omega
     ·obtain ⟨s,hs1,hs2,hs3⟩:=line_open hn h0 hcl (by omega)
      exact ⟨y.f4,s,by rw [hs1],hs2,hs3⟩
    ·cases e
def PEnd (s:List UInt8) (r:List Hk × Int × Int):Prop:=(r.2.2=0∧r.2.1=0∧(∀ x ∈ r.1,canH x=true)∧bytesL (toldL r.1)=s)∨(r.1=[]∧1≤r.2.1∧(r.2.2=2∨r.2.2=3))
theorem parseL_back:∀ (R C:List ByteArray) (i:Nat) (st:PS),Back C st→(∀ t ∈ R,noNl t=true∧0<t.size)→PEnd (bytesL (C++R)) (parseL R i st)
 | [],C,i,st,h,_=>by
  rw [parseL]
  split
  ·exact .inr ⟨rfl,by simp only;omega,.inl rfl⟩
  ·rename_i hz
   have ha:=h.a0
   have hb:=h.b0
   exact .inl ⟨rfl,rfl,h.all (by omega) (by omega),by rw [List.append_nil];exact h.text⟩
 | t :: R,C,i,st,h,hR=>by
  obtain ⟨hn,h0⟩:=hR t List.mem_cons_self
  rw [parseL]
  rcases hs:stepP st t with _|st'
  ·exact .inr ⟨rfl,by simp only;omega,.inr rfl⟩
  ·have:=parseL_back R (C++[t]) (i+1) st' (h.step hn h0 hs) (fun u hu=>hR u (List.mem_cons_of_mem _ hu))
   rw [List.append_assoc] at this
   exact this
theorem lns_noNl (l:List UInt8):∀ x ∈ lns l,¬ (10:UInt8) ∈ x.dropLast:=by
 induction l with
 | nil=>intro x hx;simp [lns] at hx
 | cons b l ih =>
  by_cases hb:b=10
  ·subst hb
   rw [lns_nl]
   intro x hx
   rcases List.mem_cons.1 hx with rfl|hx
   ·simp
   ·exact ih x hx
  ·rw [lns_no hb]
   have hne:=lns_ne l
   rcases hl:lns l with _|⟨y,ys⟩
   ·intro x hx
    simp only [glue,List.mem_singleton] at hx
    subst hx;simp
   ·rw [hl] at ih hne
    intro x hx
    rcases List.mem_cons.1 hx with rfl|hx
    ·rw [List.singleton_append,List.dropLast_cons_of_ne_nil (hne y List.mem_cons_self)]
     intro hm
     rcases List.mem_cons.1 hm with e|hm
     ·exact hb e.symm
     ·exact ih y List.mem_cons_self hm
    ·exact ih x (List.mem_cons_of_mem _ hx)
theorem linesB_ok (s:ByteArray):∀ t ∈ linesB s,noNl t=true∧0<t.size:=by
 intro t ht
 refine ⟨?_,(linesB_mem ht).1⟩
 rw [linesB_lns] at ht
 obtain ⟨x,hx,rfl⟩:=List.mem_map.1 ht
 exact decide_eq_true (lns_noNl _ x hx)
theorem linesB_bytes (s:ByteArray):bytesL (linesB s)=s.data.toList:=by
 rw [linesB_lns]
 unfold bytesL
 rw [List.flatMap_map]
 have e:(fun x:List UInt8=>(bs x).data.toList)=id:=rfl
 rw [show (List.flatMap (fun x:List UInt8=>(bs x).data.toList) (lns s.data.toList))=List.flatMap id (lns s.data.toList) from rfl,List.flatMap_id]
 exact lns_flatten _
theorem parse_back (s:ByteArray):PEnd s.data.toList (parseU s):=by
 have h:=parseL_back (linesB s) [] 0 ⟨[],0,0,true⟩ ⟨Int.le_refl _,Int.le_refl _,rfl,.inl ⟨rfl,rfl,rfl,rfl⟩⟩ (linesB_ok s)
 rw [List.nil_append,linesB_bytes] at h
 exact h
theorem told_size:∀ (l:List Hk),(∀ x ∈ l,canH x=true)→l.length≤(bytesL (toldL l)).length∧∀ x ∈ l,x.f4.length≤(bytesL (toldL l)).length∧∀ s ∈ x.f4,s.size≤(bytesL (toldL l)).length
 | [],_=>⟨Nat.zero_le _,fun x hx=>by cases hx⟩
 | x :: l,h=>by
  obtain ⟨i1,i2⟩:=told_size l (fun y hy=>h y (List.mem_cons_of_mem _ hy))
  have e:toldL (x :: l)=headOf x :: (bodyT x.f4++toldL l):=rfl
  have hh:1≤(headOf x).data.toList.length:=by rw [headOf_bytes];simp
  have hl:(bytesL (toldL (x :: l))).length=(headOf x).data.toList.length+((bytesL (bodyT x.f4)).length+(bytesL (toldL l)).length):=by
   rw [e,bytesL_cons,bytesL_append,List.length_append,List.length_append]
  have hb:∀ (r:List ByteArray) (came:Bool),okL came r=true→r.length≤(bytesL (bodyT r)).length∧∀ s ∈ r,s.size≤(bytesL (bodyT r)).length:=by
   intro r
   induction r with
   | nil=>intro _ _;exact ⟨Nat.zero_le _,fun s hs=>by cases hs⟩
   | cons s r ih =>
    intro came hk
    rw [okL,Bool.and_eq_true,decide_eq_true_eq] at hk
    obtain ⟨j1,j2⟩:=ih _ hk.2
    have h0:=hk.1.1
    have e1:s.size≤(bytesL (if closedL s.data.toList=true then [s] else [s++(⟨#[10]⟩:ByteArray),openB])).length:=by
     have e0:s.data.toList.length=s.size:=rfl
     split
     ·rw [bytesL_cons,List.length_append];omega
     ·rw [bytesL_cons,List.length_append,ByteArray.data_append,Array.toList_append,List.length_append];omega
    have e2:(bytesL (bodyT (s :: r))).length=(bytesL (if closedL s.data.toList=true then [s] else [s++(⟨#[10]⟩:ByteArray),openB])).length+(bytesL (bodyT r)).length:=by
     rw [bodyT,bytesL_append,List.length_append]
    refine ⟨by rw [List.length_cons];omega,fun u hu=>?_⟩
    rcases List.mem_cons.1 hu with rfl|hu
    ·omega
    ·have:=j2 u hu;omega
  obtain ⟨_,hk,_⟩:=canH_ok (h x List.mem_cons_self)
  obtain ⟨k1,k2⟩:=hb x.f4 false hk
  refine ⟨by rw [List.length_cons];omega,fun y hy=>?_⟩
  rcases List.mem_cons.1 hy with rfl|hy
  ·exact ⟨by omega,fun s hs=>by have:=k2 s hs;omega⟩
  ·obtain ⟨m1,m2⟩:=i2 y hy
   exact ⟨by omega,fun s hs=>by have:=m2 s hs;omega⟩
end Go.Proofs.YtamojbfmphainaaDoor.Pr
-- shrunk
-- written by a program of this session's (a turned copy of the kit's printer); Lean checks it
namespace Go.Proofs.YtamojbfmphainaaDoor.Pr
open Go.RowKit Go.Proofs.YtamojbfmphainaaDoorW.PrintWords Go.Proofs.YtamojbfmphainaaDoorW.PrintLast Go.Proofs.YtamojbfmphainaaDoorW.PrintMore
attribute [local go_sem] max2_int min2_int max_two min_two max_three min_three max_four min_four   -- for this text's walks alone

def r06_word.j0:Nat→ByteArray→Int→ByteArray→Bool→Option (Int)
 | 0,_,_,_,_=>none
 | k+1,x0,x1,x2,x17=>if x17=true then (some (-1)) else (if 0≤x1 then (if x1≤(wrap64 (x1+(x2.size:Int))) then (if (wrap64 (x1+(x2.size:Int)))≤(x0.size:Int) then (if (x0.extract (x1:Int).toNat ((wrap64 (x1+(x2.size:Int))):Int).toNat).toList=x2.toList then (some (wrap64 (x1+(x2.size:Int)))) else (some (-1))) else (none)) else (none)) else (none))
def r06_word.f (k:Nat) (a0:ByteArray) (a1:Int) (a2:ByteArray):Option (Int):=if a1<0 then (r06_word.j0 k a0 a1 a2 true) else (r06_word.j0 k a0 a1 a2 (decide ((wrap64 (a1+(a2.size:Int))) > (a0.size:Int))))
set_option maxHeartbeats 8000000 in
set_option maxRecDepth 100000 in
theorem r06_word.calls (k:Nat) (a0:ByteArray) (a1:Int) (a2:ByteArray) (r:Int) (w:World) (h:r06_word.f k a0 a1 a2=some r) :
  Calls Tryd.prog 62 #[.string a0,.int .i64 a1,.string a2] w fun e w'=>e=.returned (.int .i64 r)∧Drawn0 w w':=by
 have H:(if a1<0 then (r06_word.j0 k a0 a1 a2 true) else (r06_word.j0 k a0 a1 a2 (decide ((wrap64 (a1+(a2.size:Int))) > (a0.size:Int)))))=some r:=h
 clear h
 have HC4:=Aside0.mk H
 clear H
 go_enter Tryd.func62,Tryd.ntmps62
 go_upto_region 1 with (fail)
 go_cut [17] (fun v17 wc=>∃ (kq:Nat) (x17_3:Bool),v17=.bool x17_3∧Aside0 (r06_word.j0 kq a0 a1 a2 x17_3=some r)∧Aside0 (kq≤k)∧Drawn0 w wc)
 case first =>
  have H:=HC4.out
  clear HC4
  by_cases c5:a1<0
  ·rw [if_pos c5] at H
   have c5b0:decide (a1<0)=true:=decide_eq_true c5
   clear c5
   (first|rw [c5b0]|(simp only [i64_w,i32_w];rw [c5b0])|skip)
   have H':=Aside0.mk H
   clear H
   go_wp2
   go_meet
   case rel=>exact ⟨_,(true),(by first|rfl|(simp;done)|(simp [*];done)),H',⟨by first|omega|exact Nat.le_refl _⟩,by repeat (first|exact Drawn0.refl _|apply Drawn0.step)⟩
  ·rw [if_neg c5] at H
   have c5b0:decide (a1<0)=false:=decide_eq_false c5
   clear c5
   (first|rw [c5b0]|(simp only [i64_w,i32_w];rw [c5b0])|skip)
   have H':=Aside0.mk H
   clear H
   go_wp2
   go_meet
   case rel=>exact ⟨_,(decide ((wrap64 (a1+(a2.size:Int))) > (a0.size:Int))),(by first|rfl|(simp;done)|(simp [*];done)),H',⟨by first|omega|exact Nat.le_refl _⟩,by repeat (first|exact Drawn0.refl _|apply Drawn0.step)⟩
 case rest =>
  clear HC4
  try clear p2
  try clear c5
  try clear c5b0
  obtain ⟨kq,x17_3,rfl,HA,HJ3,⟨mc3,rfl⟩⟩:=hcut
  cases kq with
  | zero=>exact absurd HA.out (by simp [r06_word.j0])
  | succ kj3 =>
   have H:=HA.out
   clear HA
   simp only [r06_word.j0] at H
   by_cases c6:x17_3=true
   ·subst c6
    have H1:(some (-1))=some r:=by rw [if_pos rfl] at H;exact H
    clear H
    have H:=H1
    clear H1
    obtain rfl:=Option.some.inj H
    go_wp2
    go_ret
    exact ⟨by first|rfl|(simp;done)|(simp [*];done),by repeat (first|exact Drawn0.refl _|apply Drawn0.step)⟩
   ·replace c6:=Bool.eq_false_iff.mpr c6
    subst c6
    have H1:(if 0≤a1 then (if a1≤(wrap64 (a1+(a2.size:Int))) then (if (wrap64 (a1+(a2.size:Int)))≤(a0.size:Int) then (if (a0.extract (a1:Int).toNat ((wrap64 (a1+(a2.size:Int))):Int).toNat).toList=a2.toList then (some (wrap64 (a1+(a2.size:Int)))) else (some (-1))) else (none)) else (none)) else (none))=some r:=by rw [if_neg (show ¬ (false=true) by decide)] at H;exact H
    clear H
    have H:=H1
    clear H1
    by_cases c7:0≤a1
    ·rw [if_pos c7] at H
     have c7b0:=eq_true c7
     have c7b1:decide (0≤a1)=true:=decide_eq_true c7
     clear c7
     by_cases c8:a1≤(wrap64 (a1+(a2.size:Int)))
     ·rw [if_pos c8] at H
      have c8b0:=eq_true c8
      have c8b1:decide (a1≤(wrap64 (a1+(a2.size:Int))))=true:=decide_eq_true c8
      by_cases c9:(wrap64 (a1+(a2.size:Int)))≤(a0.size:Int)
      ·rw [if_pos c9] at H
       have c9b0:=eq_true c9
       have c9b1:decide ((wrap64 (a1+(a2.size:Int)))≤(a0.size:Int))=true:=decide_eq_true c9
       by_cases c10:(a0.extract (a1:Int).toNat ((wrap64 (a1+(a2.size:Int))):Int).toNat).toList=a2.toList
       ·rw [if_pos c10] at H
        have c10b0:((a0.extract (a1:Int).toNat ((wrap64 (a1+(a2.size:Int))):Int).toNat).toList == a2.toList)=true:=beq_iff_eq.mpr c10
        have c10b1:((a0.extract (a1:Int).toNat ((wrap64 (a1+(a2.size:Int))):Int).toNat).toList != a2.toList)=false:=bne_eq_false_iff_eq.mpr c10
        clear c10
        obtain rfl:=Option.some.inj H
        go_wp2
        go_ret
        exact ⟨by first|rfl|(simp;done)|(simp [*];done),by repeat (first|exact Drawn0.refl _|apply Drawn0.step)⟩
       ·rw [if_neg c10] at H
        have c10b0:((a0.extract (a1:Int).toNat ((wrap64 (a1+(a2.size:Int))):Int).toNat).toList == a2.toList)=false:=beq_eq_false_iff_ne.mpr c10
        have c10b1:((a0.extract (a1:Int).toNat ((wrap64 (a1+(a2.size:Int))):Int).toNat).toList != a2.toList)=true:=bne_iff_ne.mpr c10
        obtain rfl:=Option.some.inj H
        go_wp2
        go_ret
        exact ⟨by first|rfl|(simp;done)|(simp [*];done),by repeat (first|exact Drawn0.refl _|apply Drawn0.step)⟩
      ·rw [if_neg c9] at H
       exact absurd H (by simp)
     ·rw [if_neg c8] at H
      exact absurd H (by simp)
    ·rw [if_neg c7] at H
     exact absurd H (by simp)

end Go.Proofs.YtamojbfmphainaaDoor.Pr
-- shrunk
-- written by a program of this session's (a turned copy of the kit's printer); Lean checks it
namespace Go.Proofs.YtamojbfmphainaaDoor.Pr
open Go.RowKit Go.Proofs.YtamojbfmphainaaDoorW.PrintWords Go.Proofs.YtamojbfmphainaaDoorW.PrintLast Go.Proofs.YtamojbfmphainaaDoorW.PrintMore
attribute [local go_sem] max2_int min2_int max_two min_two max_three min_three max_four min_four   -- for this text's walks alone

def r06_number.l0:Nat→ByteArray→Int→Int→Int→Option (Int × Int)
 | 0,_,_,_,_=>none
 | k+1,x0,x1,x6,x7=>if x7<(x0.size:Int) then (if 0≤x7 then (if (bt x0 x7) ≥ 48 then (if (bt x0 x7)≤57 then (if x7<(wrap64 (x1+11)) then (r06_number.l0 k x0 x1 (wrap64 ((wrap64 ((wrap64 (10 * x6))+(wrap64 (bt x0 x7)))) - 48)) (wrap64 (x7+1))) else (if x7=x1 then (some ((-1),0)) else (if x7 > (wrap64 (x1+1)) then (if 0≤x1 then (if x1<(x0.size:Int) then (if (bt x0 x1)=48 then (some ((-1),0)) else (if x6 > 2147483647 then (some ((-1),0)) else (some (x6,x7)))) else (none)) else (none)) else (if x6 > 2147483647 then (some ((-1),0)) else (some (x6,x7)))))) else (if x7=x1 then (some ((-1),0)) else (if x7 > (wrap64 (x1+1)) then (if 0≤x1 then (if x1<(x0.size:Int) then (if (bt x0 x1)=48 then (some ((-1),0)) else (if x6 > 2147483647 then (some ((-1),0)) else (some (x6,x7)))) else (none)) else (none)) else (if x6 > 2147483647 then (some ((-1),0)) else (some (x6,x7)))))) else (if x7=x1 then (some ((-1),0)) else (if x7 > (wrap64 (x1+1)) then (if 0≤x1 then (if x1<(x0.size:Int) then (if (bt x0 x1)=48 then (some ((-1),0)) else (if x6 > 2147483647 then (some ((-1),0)) else (some (x6,x7)))) else (none)) else (none)) else (if x6 > 2147483647 then (some ((-1),0)) else (some (x6,x7)))))) else (none)) else (if x7=x1 then (some ((-1),0)) else (if x7 > (wrap64 (x1+1)) then (if 0≤x1 then (if x1<(x0.size:Int) then (if (bt x0 x1)=48 then (some ((-1),0)) else (if x6 > 2147483647 then (some ((-1),0)) else (some (x6,x7)))) else (none)) else (none)) else (if x6 > 2147483647 then (some ((-1),0)) else (some (x6,x7)))))
def r06_number.f (k:Nat) (a0:ByteArray) (a1:Int):Option (Int × Int):=r06_number.l0 k a0 a1 0 a1
set_option maxHeartbeats 8000000 in
set_option maxRecDepth 100000 in
theorem r06_number.calls (k:Nat) (a0:ByteArray) (a1:Int) (r1:Int) (r2:Int) (w:World) (h:r06_number.f k a0 a1=some (r1,r2)) :
  Calls Tryd.prog 63 #[.string a0,.int .i64 a1] w fun e w'=>e=.returned (.tuple #[.int .i64 r1,.int .i64 r2])∧Drawn0 w w':=by
 have H:(r06_number.l0 k a0 a1 0 a1)=some (r1,r2):=h
 clear h
 have H':=Aside0.mk H
 clear H
 go_enter Tryd.func63,Tryd.ntmps63
 go_wp2
 go_loopg [6,7] k (fun kq v6 v7 w'=>∃ (x6_1:Int) (x7_1:Int),v6=.int .i64 x6_1∧v7=.int .i64 x7_1∧Aside0 (r06_number.l0 kq a0 a1 x6_1 x7_1=some (r1,r2))∧Aside0 (kq≤k)∧Drawn0 w w')
 case atStart=>exact ⟨(0),(a1),(by first|rfl|(simp;done)|(simp [*];done)),(by first|rfl|(simp;done)|(simp [*];done)),H',⟨Nat.le_refl _⟩,by repeat (first|exact Drawn0.refl _|apply Drawn0.step)⟩
 case round =>
  clear H'
  try clear p2
  obtain ⟨x6_1,x7_1,rfl,rfl,HA,HK1,⟨m1,rfl⟩⟩:=hrel
  cases gk with
  | zero=>exact absurd HA.out (by simp [r06_number.l0])
  | succ k1 =>
   have H:=HA.out
   clear HA
   simp only [r06_number.l0] at H
   by_cases c3:x7_1<(a0.size:Int)
   ·rw [if_pos c3] at H
    have c3b0:decide (x7_1<(a0.size:Int))=true:=decide_eq_true c3
    clear c3
    by_cases c4:0≤x7_1
    ·rw [if_pos c4] at H
     have c4b0:decide (0≤x7_1)=true:=decide_eq_true c4
     clear c4
     by_cases c6:(bt a0 x7_1) ≥ 48
     ·rw [if_pos c6] at H
      have c6b0:decide (48≤(bt a0 x7_1))=true:=decide_eq_true c6
      clear c6
      by_cases c8:(bt a0 x7_1)≤57
      ·rw [if_pos c8] at H
       have c8b0:decide ((bt a0 x7_1)≤57)=true:=decide_eq_true c8
       clear c8
       by_cases c9:x7_1<(wrap64 (a1+11))
       ·rw [if_pos c9] at H
        have c9b0:decide (x7_1<(wrap64 (a1+11)))=true:=decide_eq_true c9
        clear c9
        have H':=Aside0.mk H
        clear H
        have p5:0≤(x7_1:Int):=of_decide_eq_true (by first|(with_reducible assumption)|assumption)
        have q5:x7_1<(a0.size:Int):=of_decide_eq_true (by first|(with_reducible assumption)|assumption)
        have hx5:=bt_at a0 x7_1
        replace p5:=eq_true p5
        replace q5:=eq_true q5
        have p7:0≤(x7_1:Int):=of_decide_eq_true (by first|(with_reducible assumption)|assumption)
        have q7:x7_1<(a0.size:Int):=of_decide_eq_true (by first|(with_reducible assumption)|assumption)
        have hx7:=bt_at a0 x7_1
        replace p7:=eq_true p7
        replace q7:=eq_true q7
        have p10:0≤(x7_1:Int):=of_decide_eq_true (by first|(with_reducible assumption)|assumption)
        have q10:x7_1<(a0.size:Int):=of_decide_eq_true (by first|(with_reducible assumption)|assumption)
        have hx10:=bt_at a0 x7_1
        replace p10:=eq_true p10
        replace q10:=eq_true q10
        go_wp2
        go_roundg k1
        case measure=>have:=HK1.out;omega
        case rel=>exact ⟨(wrap64 ((wrap64 ((wrap64 (10 * x6_1))+(wrap64 (bt a0 x7_1)))) - 48)),(wrap64 (x7_1+1)),(by first|rfl|(simp;done)|(simp [*];done)),(by first|rfl|(simp;done)|(simp [*];done)),H',⟨by have:=HK1.out;omega⟩,by repeat (first|exact Drawn0.refl _|apply Drawn0.step)⟩
       ·rw [if_neg c9] at H
        have c9b0:decide (x7_1<(wrap64 (a1+11)))=false:=decide_eq_false c9
        clear c9
        by_cases c11:x7_1=a1
        ·rw [if_pos c11] at H
         have c11b0:(x7_1 == a1)=true:=beq_iff_eq.mpr c11
         have c11b1:(x7_1 != a1)=false:=bne_eq_false_iff_eq.mpr c11
         clear c11
         simp only [Option.some.injEq,Prod.mk.injEq] at H
         obtain ⟨rfl,rfl⟩:=H
         have p5:0≤(x7_1:Int):=of_decide_eq_true (by first|(with_reducible assumption)|assumption)
         have q5:x7_1<(a0.size:Int):=of_decide_eq_true (by first|(with_reducible assumption)|assumption)
         have hx5:=bt_at a0 x7_1
         replace p5:=eq_true p5
         replace q5:=eq_true q5
         have p7:0≤(x7_1:Int):=of_decide_eq_true (by first|(with_reducible assumption)|assumption)
         have q7:x7_1<(a0.size:Int):=of_decide_eq_true (by first|(with_reducible assumption)|assumption)
         have hx7:=bt_at a0 x7_1
         replace p7:=eq_true p7
         replace q7:=eq_true q7
         go_wp2
         go_ret2
         exact ⟨by first|rfl|(simp;done)|(simp [*];done),by repeat (first|exact Drawn0.refl _|apply Drawn0.step)⟩
        ·rw [if_neg c11] at H
         have c11b0:(x7_1 == a1)=false:=beq_eq_false_iff_ne.mpr c11
         have c11b1:(x7_1 != a1)=true:=bne_iff_ne.mpr c11
         by_cases c12:x7_1 > (wrap64 (a1+1))
         ·rw [if_pos c12] at H
          have c12b0:decide ((wrap64 (a1+1))<x7_1)=true:=decide_eq_true c12
          clear c12
          by_cases c13:0≤a1
          ·rw [if_pos c13] at H
           have c13b0:decide (0≤a1)=true:=decide_eq_true c13
           clear c13
           by_cases c14:a1<(a0.size:Int)
           ·rw [if_pos c14] at H
            have c14b0:decide (a1<(a0.size:Int))=true:=decide_eq_true c14
            clear c14
            by_cases c16:(bt a0 a1)=48
            ·rw [if_pos c16] at H
             have c16b0:((bt a0 a1) == 48)=true:=beq_iff_eq.mpr c16
             have c16b1:((bt a0 a1) != 48)=false:=bne_eq_false_iff_eq.mpr c16
             clear c16
             simp only [Option.some.injEq,Prod.mk.injEq] at H
             obtain ⟨rfl,rfl⟩:=H
             have p5:0≤(x7_1:Int):=of_decide_eq_true (by first|(with_reducible assumption)|assumption)
             have q5:x7_1<(a0.size:Int):=of_decide_eq_true (by first|(with_reducible assumption)|assumption)
             have hx5:=bt_at a0 x7_1
             replace p5:=eq_true p5
             replace q5:=eq_true q5
             have p7:0≤(x7_1:Int):=of_decide_eq_true (by first|(with_reducible assumption)|assumption)
             have q7:x7_1<(a0.size:Int):=of_decide_eq_true (by first|(with_reducible assumption)|assumption)
             have hx7:=bt_at a0 x7_1
             replace p7:=eq_true p7
             replace q7:=eq_true q7
             have p15:0≤(a1:Int):=of_decide_eq_true (by first|(with_reducible assumption)|assumption)
             have q15:a1<(a0.size:Int):=of_decide_eq_true (by first|(with_reducible assumption)|assumption)
             have hx15:=bt_at a0 a1
             replace p15:=eq_true p15
             replace q15:=eq_true q15
             go_wp2
             go_ret2
             exact ⟨by first|rfl|(simp;done)|(simp [*];done),by repeat (first|exact Drawn0.refl _|apply Drawn0.step)⟩
            ·rw [if_neg c16] at H
             have c16b0:((bt a0 a1) == 48)=false:=beq_eq_false_iff_ne.mpr c16
             have c16b1:((bt a0 a1) != 48)=true:=bne_iff_ne.mpr c16
             by_cases c17:x6_1 > 2147483647
             ·rw [if_pos c17] at H
              have c17b0:decide (2147483647<x6_1)=true:=decide_eq_true c17
              clear c17
              simp only [Option.some.injEq,Prod.mk.injEq] at H
              obtain ⟨rfl,rfl⟩:=H
              have p5:0≤(x7_1:Int):=of_decide_eq_true (by first|(with_reducible assumption)|assumption)
              have q5:x7_1<(a0.size:Int):=of_decide_eq_true (by first|(with_reducible assumption)|assumption)
              have hx5:=bt_at a0 x7_1
              replace p5:=eq_true p5
              replace q5:=eq_true q5
              have p7:0≤(x7_1:Int):=of_decide_eq_true (by first|(with_reducible assumption)|assumption)
              have q7:x7_1<(a0.size:Int):=of_decide_eq_true (by first|(with_reducible assumption)|assumption)
              have hx7:=bt_at a0 x7_1
              replace p7:=eq_true p7
              replace q7:=eq_true q7
              have p15:0≤(a1:Int):=of_decide_eq_true (by first|(with_reducible assumption)|assumption)
              have q15:a1<(a0.size:Int):=of_decide_eq_true (by first|(with_reducible assumption)|assumption)
              have hx15:=bt_at a0 a1
              replace p15:=eq_true p15
              replace q15:=eq_true q15
              go_wp2
              go_ret2
              exact ⟨by first|rfl|(simp;done)|(simp [*];done),by repeat (first|exact Drawn0.refl _|apply Drawn0.step)⟩
             ·rw [if_neg c17] at H
              have c17b0:decide (2147483647<x6_1)=false:=decide_eq_false c17
              clear c17
              simp only [Option.some.injEq,Prod.mk.injEq] at H
              obtain ⟨rfl,rfl⟩:=H
              have p5:0≤(x7_1:Int):=of_decide_eq_true (by first|(with_reducible assumption)|assumption)
              have q5:x7_1<(a0.size:Int):=of_decide_eq_true (by first|(with_reducible assumption)|assumption)
              have hx5:=bt_at a0 x7_1
              replace p5:=eq_true p5
              replace q5:=eq_true q5
              have p7:0≤(x7_1:Int):=of_decide_eq_true (by first|(with_reducible assumption)|assumption)
              have q7:x7_1<(a0.size:Int):=of_decide_eq_true (by first|(with_reducible assumption)|assumption)
              have hx7:=bt_at a0 x7_1
              replace p7:=eq_true p7
              replace q7:=eq_true q7
              have p15:0≤(a1:Int):=of_decide_eq_true (by first|(with_reducible assumption)|assumption)
              have q15:a1<(a0.size:Int):=of_decide_eq_true (by first|(with_reducible assumption)|assumption)
              have hx15:=bt_at a0 a1
              replace p15:=eq_true p15
              replace q15:=eq_true q15
              go_wp2
              go_ret2
              exact ⟨by first|rfl|(simp;done)|(simp [*];done),by repeat (first|exact Drawn0.refl _|apply Drawn0.step)⟩
           ·rw [if_neg c14] at H
            exact absurd H (by simp)
          ·rw [if_neg c13] at H
           exact absurd H (by simp)
         ·rw [if_neg c12] at H
          have c12b0:decide ((wrap64 (a1+1))<x7_1)=false:=decide_eq_false c12
          clear c12
          by_cases c18:x6_1 > 2147483647
          ·rw [if_pos c18] at H
           have c18b0:decide (2147483647<x6_1)=true:=decide_eq_true c18
           clear c18
           simp only [Option.some.injEq,Prod.mk.injEq] at H
           obtain ⟨rfl,rfl⟩:=H
           have p5:0≤(x7_1:Int):=of_decide_eq_true (by first|(with_reducible assumption)|assumption)
           have q5:x7_1<(a0.size:Int):=of_decide_eq_true (by first|(with_reducible assumption)|assumption)
           have hx5:=bt_at a0 x7_1
           replace p5:=eq_true p5
           replace q5:=eq_true q5
           have p7:0≤(x7_1:Int):=of_decide_eq_true (by first|(with_reducible assumption)|assumption)
           have q7:x7_1<(a0.size:Int):=of_decide_eq_true (by first|(with_reducible assumption)|assumption)
           have hx7:=bt_at a0 x7_1
           replace p7:=eq_true p7
           replace q7:=eq_true q7
           go_wp2
           go_ret2
           exact ⟨by first|rfl|(simp;done)|(simp [*];done),by repeat (first|exact Drawn0.refl _|apply Drawn0.step)⟩
          ·rw [if_neg c18] at H
           have c18b0:decide (2147483647<x6_1)=false:=decide_eq_false c18
           clear c18
           simp only [Option.some.injEq,Prod.mk.injEq] at H
           obtain ⟨rfl,rfl⟩:=H
           have p5:0≤(x7_1:Int):=of_decide_eq_true (by first|(with_reducible assumption)|assumption)
           have q5:x7_1<(a0.size:Int):=of_decide_eq_true (by first|(with_reducible assumption)|assumption)
           have hx5:=bt_at a0 x7_1
           replace p5:=eq_true p5
           replace q5:=eq_true q5
           have p7:0≤(x7_1:Int):=of_decide_eq_true (by first|(with_reducible assumption)|assumption)
           have q7:x7_1<(a0.size:Int):=of_decide_eq_true (by first|(with_reducible assumption)|assumption)
           have hx7:=bt_at a0 x7_1
           replace p7:=eq_true p7
           replace q7:=eq_true q7
           go_wp2
           go_ret2
           exact ⟨by first|rfl|(simp;done)|(simp [*];done),by repeat (first|exact Drawn0.refl _|apply Drawn0.step)⟩
      ·rw [if_neg c8] at H
       have c8b0:decide ((bt a0 x7_1)≤57)=false:=decide_eq_false c8
       clear c8
       by_cases c19:x7_1=a1
       ·rw [if_pos c19] at H
        have c19b0:(x7_1 == a1)=true:=beq_iff_eq.mpr c19
        have c19b1:(x7_1 != a1)=false:=bne_eq_false_iff_eq.mpr c19
        clear c19
        simp only [Option.some.injEq,Prod.mk.injEq] at H
        obtain ⟨rfl,rfl⟩:=H
        have p5:0≤(x7_1:Int):=of_decide_eq_true (by first|(with_reducible assumption)|assumption)
        have q5:x7_1<(a0.size:Int):=of_decide_eq_true (by first|(with_reducible assumption)|assumption)
        have hx5:=bt_at a0 x7_1
        replace p5:=eq_true p5
        replace q5:=eq_true q5
        have p7:0≤(x7_1:Int):=of_decide_eq_true (by first|(with_reducible assumption)|assumption)
        have q7:x7_1<(a0.size:Int):=of_decide_eq_true (by first|(with_reducible assumption)|assumption)
        have hx7:=bt_at a0 x7_1
        replace p7:=eq_true p7
        replace q7:=eq_true q7
        go_wp2
        go_ret2
        exact ⟨by first|rfl|(simp;done)|(simp [*];done),by repeat (first|exact Drawn0.refl _|apply Drawn0.step)⟩
       ·rw [if_neg c19] at H
        have c19b0:(x7_1 == a1)=false:=beq_eq_false_iff_ne.mpr c19
        have c19b1:(x7_1 != a1)=true:=bne_iff_ne.mpr c19
        by_cases c20:x7_1 > (wrap64 (a1+1))
        ·rw [if_pos c20] at H
         have c20b0:decide ((wrap64 (a1+1))<x7_1)=true:=decide_eq_true c20
         clear c20
         by_cases c21:0≤a1
         ·rw [if_pos c21] at H
          have c21b0:decide (0≤a1)=true:=decide_eq_true c21
          clear c21
          by_cases c22:a1<(a0.size:Int)
          ·rw [if_pos c22] at H
           have c22b0:decide (a1<(a0.size:Int))=true:=decide_eq_true c22
           clear c22
           by_cases c24:(bt a0 a1)=48
           ·rw [if_pos c24] at H
            have c24b0:((bt a0 a1) == 48)=true:=beq_iff_eq.mpr c24
            have c24b1:((bt a0 a1) != 48)=false:=bne_eq_false_iff_eq.mpr c24
            clear c24
            simp only [Option.some.injEq,Prod.mk.injEq] at H
            obtain ⟨rfl,rfl⟩:=H
            have p5:0≤(x7_1:Int):=of_decide_eq_true (by first|(with_reducible assumption)|assumption)
            have q5:x7_1<(a0.size:Int):=of_decide_eq_true (by first|(with_reducible assumption)|assumption)
            have hx5:=bt_at a0 x7_1
            replace p5:=eq_true p5
            replace q5:=eq_true q5
            have p7:0≤(x7_1:Int):=of_decide_eq_true (by first|(with_reducible assumption)|assumption)
            have q7:x7_1<(a0.size:Int):=of_decide_eq_true (by first|(with_reducible assumption)|assumption)
            have hx7:=bt_at a0 x7_1
            replace p7:=eq_true p7
            replace q7:=eq_true q7
            have p23:0≤(a1:Int):=of_decide_eq_true (by first|(with_reducible assumption)|assumption)
            have q23:a1<(a0.size:Int):=of_decide_eq_true (by first|(with_reducible assumption)|assumption)
            have hx23:=bt_at a0 a1
            replace p23:=eq_true p23
            replace q23:=eq_true q23
            go_wp2
            go_ret2
            exact ⟨by first|rfl|(simp;done)|(simp [*];done),by repeat (first|exact Drawn0.refl _|apply Drawn0.step)⟩
           ·rw [if_neg c24] at H
            have c24b0:((bt a0 a1) == 48)=false:=beq_eq_false_iff_ne.mpr c24
            have c24b1:((bt a0 a1) != 48)=true:=bne_iff_ne.mpr c24
            by_cases c25:x6_1 > 2147483647
            ·rw [if_pos c25] at H
             have c25b0:decide (2147483647<x6_1)=true:=decide_eq_true c25
             clear c25
             simp only [Option.some.injEq,Prod.mk.injEq] at H
             obtain ⟨rfl,rfl⟩:=H
             have p5:0≤(x7_1:Int):=of_decide_eq_true (by first|(with_reducible assumption)|assumption)
             have q5:x7_1<(a0.size:Int):=of_decide_eq_true (by first|(with_reducible assumption)|assumption)
             have hx5:=bt_at a0 x7_1
             replace p5:=eq_true p5
             replace q5:=eq_true q5
             have p7:0≤(x7_1:Int):=of_decide_eq_true (by first|(with_reducible assumption)|assumption)
             have q7:x7_1<(a0.size:Int):=of_decide_eq_true (by first|(with_reducible assumption)|assumption)
             have hx7:=bt_at a0 x7_1
             replace p7:=eq_true p7
             replace q7:=eq_true q7
             have p23:0≤(a1:Int):=of_decide_eq_true (by first|(with_reducible assumption)|assumption)
             have q23:a1<(a0.size:Int):=of_decide_eq_true (by first|(with_reducible assumption)|assumption)
             have hx23:=bt_at a0 a1
             replace p23:=eq_true p23
             replace q23:=eq_true q23
             go_wp2
             go_ret2
             exact ⟨by first|rfl|(simp;done)|(simp [*];done),by repeat (first|exact Drawn0.refl _|apply Drawn0.step)⟩
            ·rw [if_neg c25] at H
             have c25b0:decide (2147483647<x6_1)=false:=decide_eq_false c25
             clear c25
             simp only [Option.some.injEq,Prod.mk.injEq] at H
             obtain ⟨rfl,rfl⟩:=H
             have p5:0≤(x7_1:Int):=of_decide_eq_true (by first|(with_reducible assumption)|assumption)
             have q5:x7_1<(a0.size:Int):=of_decide_eq_true (by first|(with_reducible assumption)|assumption)
             have hx5:=bt_at a0 x7_1
             replace p5:=eq_true p5
             replace q5:=eq_true q5
             have p7:0≤(x7_1:Int):=of_decide_eq_true (by first|(with_reducible assumption)|assumption)
             have q7:x7_1<(a0.size:Int):=of_decide_eq_true (by first|(with_reducible assumption)|assumption)
             have hx7:=bt_at a0 x7_1
             replace p7:=eq_true p7
             replace q7:=eq_true q7
             have p23:0≤(a1:Int):=of_decide_eq_true (by first|(with_reducible assumption)|assumption)
             have q23:a1<(a0.size:Int):=of_decide_eq_true (by first|(with_reducible assumption)|assumption)
             have hx23:=bt_at a0 a1
             replace p23:=eq_true p23
             replace q23:=eq_true q23
             go_wp2
             go_ret2
             exact ⟨by first|rfl|(simp;done)|(simp [*];done),by repeat (first|exact Drawn0.refl _|apply Drawn0.step)⟩
          ·rw [if_neg c22] at H
           exact absurd H (by simp)
         ·rw [if_neg c21] at H
          exact absurd H (by simp)
        ·rw [if_neg c20] at H
         have c20b0:decide ((wrap64 (a1+1))<x7_1)=false:=decide_eq_false c20
         clear c20
         by_cases c26:x6_1 > 2147483647
         ·rw [if_pos c26] at H
          have c26b0:decide (2147483647<x6_1)=true:=decide_eq_true c26
          clear c26
          simp only [Option.some.injEq,Prod.mk.injEq] at H
          obtain ⟨rfl,rfl⟩:=H
          have p5:0≤(x7_1:Int):=of_decide_eq_true (by first|(with_reducible assumption)|assumption)
          have q5:x7_1<(a0.size:Int):=of_decide_eq_true (by first|(with_reducible assumption)|assumption)
          have hx5:=bt_at a0 x7_1
          replace p5:=eq_true p5
          replace q5:=eq_true q5
          have p7:0≤(x7_1:Int):=of_decide_eq_true (by first|(with_reducible assumption)|assumption)
          have q7:x7_1<(a0.size:Int):=of_decide_eq_true (by first|(with_reducible assumption)|assumption)
          have hx7:=bt_at a0 x7_1
          replace p7:=eq_true p7
          replace q7:=eq_true q7
          go_wp2
          go_ret2
          exact ⟨by first|rfl|(simp;done)|(simp [*];done),by repeat (first|exact Drawn0.refl _|apply Drawn0.step)⟩
         ·rw [if_neg c26] at H
          have c26b0:decide (2147483647<x6_1)=false:=decide_eq_false c26
          clear c26
          simp only [Option.some.injEq,Prod.mk.injEq] at H
          obtain ⟨rfl,rfl⟩:=H
          have p5:0≤(x7_1:Int):=of_decide_eq_true (by first|(with_reducible assumption)|assumption)
          have q5:x7_1<(a0.size:Int):=of_decide_eq_true (by first|(with_reducible assumption)|assumption)
          have hx5:=bt_at a0 x7_1
          replace p5:=eq_true p5
          replace q5:=eq_true q5
          have p7:0≤(x7_1:Int):=of_decide_eq_true (by first|(with_reducible assumption)|assumption)
          have q7:x7_1<(a0.size:Int):=of_decide_eq_true (by first|(with_reducible assumption)|assumption)
          have hx7:=bt_at a0 x7_1
          replace p7:=eq_true p7
          replace q7:=eq_true q7
          go_wp2
          go_ret2
          exact ⟨by first|rfl|(simp;done)|(simp [*];done),by repeat (first|exact Drawn0.refl _|apply Drawn0.step)⟩
     ·rw [if_neg c6] at H
      have c6b0:decide (48≤(bt a0 x7_1))=false:=decide_eq_false c6
      clear c6
      by_cases c27:x7_1=a1
      ·rw [if_pos c27] at H
       have c27b0:(x7_1 == a1)=true:=beq_iff_eq.mpr c27
       have c27b1:(x7_1 != a1)=false:=bne_eq_false_iff_eq.mpr c27
       clear c27
       simp only [Option.some.injEq,Prod.mk.injEq] at H
       obtain ⟨rfl,rfl⟩:=H
       have p5:0≤(x7_1:Int):=of_decide_eq_true (by first|(with_reducible assumption)|assumption)
       have q5:x7_1<(a0.size:Int):=of_decide_eq_true (by first|(with_reducible assumption)|assumption)
       have hx5:=bt_at a0 x7_1
       replace p5:=eq_true p5
       replace q5:=eq_true q5
       go_wp2
       go_ret2
       exact ⟨by first|rfl|(simp;done)|(simp [*];done),by repeat (first|exact Drawn0.refl _|apply Drawn0.step)⟩
      ·rw [if_neg c27] at H
       have c27b0:(x7_1 == a1)=false:=beq_eq_false_iff_ne.mpr c27
       have c27b1:(x7_1 != a1)=true:=bne_iff_ne.mpr c27
       by_cases c28:x7_1 > (wrap64 (a1+1))
       ·rw [if_pos c28] at H
        have c28b0:decide ((wrap64 (a1+1))<x7_1)=true:=decide_eq_true c28
        clear c28
        by_cases c29:0≤a1
        ·rw [if_pos c29] at H
         have c29b0:decide (0≤a1)=true:=decide_eq_true c29
         clear c29
         by_cases c30:a1<(a0.size:Int)
         ·rw [if_pos c30] at H
          have c30b0:decide (a1<(a0.size:Int))=true:=decide_eq_true c30
          clear c30
          by_cases c32:(bt a0 a1)=48
          ·rw [if_pos c32] at H
           have c32b0:((bt a0 a1) == 48)=true:=beq_iff_eq.mpr c32
           have c32b1:((bt a0 a1) != 48)=false:=bne_eq_false_iff_eq.mpr c32
           clear c32
           simp only [Option.some.injEq,Prod.mk.injEq] at H
           obtain ⟨rfl,rfl⟩:=H
           have p5:0≤(x7_1:Int):=of_decide_eq_true (by first|(with_reducible assumption)|assumption)
           have q5:x7_1<(a0.size:Int):=of_decide_eq_true (by first|(with_reducible assumption)|assumption)
           have hx5:=bt_at a0 x7_1
           replace p5:=eq_true p5
           replace q5:=eq_true q5
           have p31:0≤(a1:Int):=of_decide_eq_true (by first|(with_reducible assumption)|assumption)
           have q31:a1<(a0.size:Int):=of_decide_eq_true (by first|(with_reducible assumption)|assumption)
           have hx31:=bt_at a0 a1
           replace p31:=eq_true p31
           replace q31:=eq_true q31
           go_wp2
           go_ret2
           exact ⟨by first|rfl|(simp;done)|(simp [*];done),by repeat (first|exact Drawn0.refl _|apply Drawn0.step)⟩
          ·rw [if_neg c32] at H
           have c32b0:((bt a0 a1) == 48)=false:=beq_eq_false_iff_ne.mpr c32
           have c32b1:((bt a0 a1) != 48)=true:=bne_iff_ne.mpr c32
           by_cases c33:x6_1 > 2147483647
           ·rw [if_pos c33] at H
            have c33b0:decide (2147483647<x6_1)=true:=decide_eq_true c33
            clear c33
            simp only [Option.some.injEq,Prod.mk.injEq] at H
            obtain ⟨rfl,rfl⟩:=H
            have p5:0≤(x7_1:Int):=of_decide_eq_true (by first|(with_reducible assumption)|assumption)
            have q5:x7_1<(a0.size:Int):=of_decide_eq_true (by first|(with_reducible assumption)|assumption)
            have hx5:=bt_at a0 x7_1
            replace p5:=eq_true p5
            replace q5:=eq_true q5
            have p31:0≤(a1:Int):=of_decide_eq_true (by first|(with_reducible assumption)|assumption)
            have q31:a1<(a0.size:Int):=of_decide_eq_true (by first|(with_reducible assumption)|assumption)
            have hx31:=bt_at a0 a1
            replace p31:=eq_true p31
            replace q31:=eq_true q31
            go_wp2
            go_ret2
            exact ⟨by first|rfl|(simp;done)|(simp [*];done),by repeat (first|exact Drawn0.refl _|apply Drawn0.step)⟩
           ·rw [if_neg c33] at H
            have c33b0:decide (2147483647<x6_1)=false:=decide_eq_false c33
            clear c33
            simp only [Option.some.injEq,Prod.mk.injEq] at H
            obtain ⟨rfl,rfl⟩:=H
            have p5:0≤(x7_1:Int):=of_decide_eq_true (by first|(with_reducible assumption)|assumption)
            have q5:x7_1<(a0.size:Int):=of_decide_eq_true (by first|(with_reducible assumption)|assumption)
            have hx5:=bt_at a0 x7_1
            replace p5:=eq_true p5
            replace q5:=eq_true q5
            have p31:0≤(a1:Int):=of_decide_eq_true (by first|(with_reducible assumption)|assumption)
            have q31:a1<(a0.size:Int):=of_decide_eq_true (by first|(with_reducible assumption)|assumption)
            have hx31:=bt_at a0 a1
            replace p31:=eq_true p31
            replace q31:=eq_true q31
            go_wp2
            go_ret2
            exact ⟨by first|rfl|(simp;done)|(simp [*];done),by repeat (first|exact Drawn0.refl _|apply Drawn0.step)⟩
         ·rw [if_neg c30] at H
          exact absurd H (by simp)
        ·rw [if_neg c29] at H
         exact absurd H (by simp)
       ·rw [if_neg c28] at H
        have c28b0:decide ((wrap64 (a1+1))<x7_1)=false:=decide_eq_false c28
        clear c28
        by_cases c34:x6_1 > 2147483647
        ·rw [if_pos c34] at H
         have c34b0:decide (2147483647<x6_1)=true:=decide_eq_true c34
         clear c34
         simp only [Option.some.injEq,Prod.mk.injEq] at H
         obtain ⟨rfl,rfl⟩:=H
         have p5:0≤(x7_1:Int):=of_decide_eq_true (by first|(with_reducible assumption)|assumption)
         have q5:x7_1<(a0.size:Int):=of_decide_eq_true (by first|(with_reducible assumption)|assumption)
         have hx5:=bt_at a0 x7_1
         replace p5:=eq_true p5
         replace q5:=eq_true q5
         go_wp2
         go_ret2
         exact ⟨by first|rfl|(simp;done)|(simp [*];done),by repeat (first|exact Drawn0.refl _|apply Drawn0.step)⟩
        ·rw [if_neg c34] at H
         have c34b0:decide (2147483647<x6_1)=false:=decide_eq_false c34
         clear c34
         simp only [Option.some.injEq,Prod.mk.injEq] at H
         obtain ⟨rfl,rfl⟩:=H
         have p5:0≤(x7_1:Int):=of_decide_eq_true (by first|(with_reducible assumption)|assumption)
         have q5:x7_1<(a0.size:Int):=of_decide_eq_true (by first|(with_reducible assumption)|assumption)
         have hx5:=bt_at a0 x7_1
         replace p5:=eq_true p5
         replace q5:=eq_true q5
         go_wp2
         go_ret2
         exact ⟨by first|rfl|(simp;done)|(simp [*];done),by repeat (first|exact Drawn0.refl _|apply Drawn0.step)⟩
    ·rw [if_neg c4] at H
     exact absurd H (by simp)
   ·rw [if_neg c3] at H
    have c3b0:decide (x7_1<(a0.size:Int))=false:=decide_eq_false c3
    clear c3
    by_cases c35:x7_1=a1
    ·rw [if_pos c35] at H
     have c35b0:(x7_1 == a1)=true:=beq_iff_eq.mpr c35
     have c35b1:(x7_1 != a1)=false:=bne_eq_false_iff_eq.mpr c35
     clear c35
     simp only [Option.some.injEq,Prod.mk.injEq] at H
     obtain ⟨rfl,rfl⟩:=H
     go_wp2
     go_ret2
     exact ⟨by first|rfl|(simp;done)|(simp [*];done),by repeat (first|exact Drawn0.refl _|apply Drawn0.step)⟩
    ·rw [if_neg c35] at H
     have c35b0:(x7_1 == a1)=false:=beq_eq_false_iff_ne.mpr c35
     have c35b1:(x7_1 != a1)=true:=bne_iff_ne.mpr c35
     by_cases c36:x7_1 > (wrap64 (a1+1))
     ·rw [if_pos c36] at H
      have c36b0:decide ((wrap64 (a1+1))<x7_1)=true:=decide_eq_true c36
      clear c36
      by_cases c37:0≤a1
      ·rw [if_pos c37] at H
       have c37b0:decide (0≤a1)=true:=decide_eq_true c37
       clear c37
       by_cases c38:a1<(a0.size:Int)
       ·rw [if_pos c38] at H
        have c38b0:decide (a1<(a0.size:Int))=true:=decide_eq_true c38
        clear c38
        by_cases c40:(bt a0 a1)=48
        ·rw [if_pos c40] at H
         have c40b0:((bt a0 a1) == 48)=true:=beq_iff_eq.mpr c40
         have c40b1:((bt a0 a1) != 48)=false:=bne_eq_false_iff_eq.mpr c40
         clear c40
         simp only [Option.some.injEq,Prod.mk.injEq] at H
         obtain ⟨rfl,rfl⟩:=H
         have p39:0≤(a1:Int):=of_decide_eq_true (by first|(with_reducible assumption)|assumption)
         have q39:a1<(a0.size:Int):=of_decide_eq_true (by first|(with_reducible assumption)|assumption)
         have hx39:=bt_at a0 a1
         replace p39:=eq_true p39
         replace q39:=eq_true q39
         go_wp2
         go_ret2
         exact ⟨by first|rfl|(simp;done)|(simp [*];done),by repeat (first|exact Drawn0.refl _|apply Drawn0.step)⟩
        ·rw [if_neg c40] at H
         have c40b0:((bt a0 a1) == 48)=false:=beq_eq_false_iff_ne.mpr c40
         have c40b1:((bt a0 a1) != 48)=true:=bne_iff_ne.mpr c40
         by_cases c41:x6_1 > 2147483647
         ·rw [if_pos c41] at H
          have c41b0:decide (2147483647<x6_1)=true:=decide_eq_true c41
          clear c41
          simp only [Option.some.injEq,Prod.mk.injEq] at H
          obtain ⟨rfl,rfl⟩:=H
          have p39:0≤(a1:Int):=of_decide_eq_true (by first|(with_reducible assumption)|assumption)
          have q39:a1<(a0.size:Int):=of_decide_eq_true (by first|(with_reducible assumption)|assumption)
          have hx39:=bt_at a0 a1
          replace p39:=eq_true p39
          replace q39:=eq_true q39
          go_wp2
          go_ret2
          exact ⟨by first|rfl|(simp;done)|(simp [*];done),by repeat (first|exact Drawn0.refl _|apply Drawn0.step)⟩
         ·rw [if_neg c41] at H
          have c41b0:decide (2147483647<x6_1)=false:=decide_eq_false c41
          clear c41
          simp only [Option.some.injEq,Prod.mk.injEq] at H
          obtain ⟨rfl,rfl⟩:=H
          have p39:0≤(a1:Int):=of_decide_eq_true (by first|(with_reducible assumption)|assumption)
          have q39:a1<(a0.size:Int):=of_decide_eq_true (by first|(with_reducible assumption)|assumption)
          have hx39:=bt_at a0 a1
          replace p39:=eq_true p39
          replace q39:=eq_true q39
          go_wp2
          go_ret2
          exact ⟨by first|rfl|(simp;done)|(simp [*];done),by repeat (first|exact Drawn0.refl _|apply Drawn0.step)⟩
       ·rw [if_neg c38] at H
        exact absurd H (by simp)
      ·rw [if_neg c37] at H
       exact absurd H (by simp)
     ·rw [if_neg c36] at H
      have c36b0:decide ((wrap64 (a1+1))<x7_1)=false:=decide_eq_false c36
      clear c36
      by_cases c42:x6_1 > 2147483647
      ·rw [if_pos c42] at H
       have c42b0:decide (2147483647<x6_1)=true:=decide_eq_true c42
       clear c42
       simp only [Option.some.injEq,Prod.mk.injEq] at H
       obtain ⟨rfl,rfl⟩:=H
       go_wp2
       go_ret2
       exact ⟨by first|rfl|(simp;done)|(simp [*];done),by repeat (first|exact Drawn0.refl _|apply Drawn0.step)⟩
      ·rw [if_neg c42] at H
       have c42b0:decide (2147483647<x6_1)=false:=decide_eq_false c42
       clear c42
       simp only [Option.some.injEq,Prod.mk.injEq] at H
       obtain ⟨rfl,rfl⟩:=H
       go_wp2
       go_ret2
       exact ⟨by first|rfl|(simp;done)|(simp [*];done),by repeat (first|exact Drawn0.refl _|apply Drawn0.step)⟩

end Go.Proofs.YtamojbfmphainaaDoor.Pr
-- shrunk
/-
The document's head of a hunk as a plain function of its text: words, numbers; the same as the program's.
-/
namespace Go.Proofs.YtamojbfmphainaaDoor.Pr
open Go.RowKit Go.Proofs.YtamojbfmphainaaDoorW.PrintWords Go.Proofs.YtamojbfmphainaaDoorW.PrintLast Go.Proofs.YtamojbfmphainaaDoorW.PrintMore
def restL (s:ByteArray) (i:Nat):List UInt8:=s.data.toList.drop i
theorem restL_len (s:ByteArray) (i:Nat):(restL s i).length=s.size - i:=by
 unfold restL;rw [List.length_drop];rfl
def wordN (s:ByteArray) (i:Nat) (w:ByteArray):Option Nat:=if w.data.toList <+: restL s i then some (i+w.size) else none
def wordI (s:ByteArray) (i:Nat) (w:ByteArray):Int:=match wordN s i w with
 | some j=>(j:Int)
 | none => -1
theorem pre_take {α:Type} (w r:List α) (h:w.length≤r.length):r.take w.length=w ↔ w <+: r:=by
 constructor
 ·intro e;rw [← e];exact List.take_prefix _ _
 ·rintro ⟨t,rfl⟩;rw [List.take_left]
theorem ext_take (s:ByteArray) (i n:Nat) (h:i+n≤s.size):(s.extract i (i+n)).data.toList=(restL s i).take n:=by
 unfold restL
 rw [ByteArray.data_extract,Array.toList_extract,List.extract_eq_take_drop,Nat.add_sub_cancel_left]
theorem ext_iff (s w:ByteArray) (i:Nat) (h:i+w.size≤s.size):(s.extract i (i+w.size)).toList=w.toList ↔ w.data.toList <+: restL s i:=by
 rw [str_iff,← pre_take w.data.toList (restL s i) (by rw [restL_len];show w.size≤_;omega)]
 show _ ↔ (restL s i).take w.size=_
 rw [← ext_take s i w.size h]
 constructor
 ·intro e;rw [e]
 ·intro e;exact ByteArray.ext (Array.toList_inj.1 e)
theorem word_f (k:Nat) (s w:ByteArray) (i:Nat) (hs:s.size≤1048576) (hi:i≤s.size) (hw:w.size≤100):r06_word.f (k+1) s (i:Int) w=some (wordI s i w):=by
 have e:wrap64 ((i:Int)+(w.size:Int))=((i+w.size:Nat):Int):=by rw [w_in (by omega) (by omega)];omega
 unfold r06_word.f wordI wordN
 rw [if_neg (by omega),e]
 by_cases h:i+w.size≤s.size
 ·rw [decide_eq_false (by omega)]
  refine (r06_word.j0.eq_2 ..).trans ?_
  rw [if_neg Bool.false_ne_true,e,if_pos (by omega),if_pos (by omega),if_pos (by omega),Int.toNat_natCast,Int.toNat_natCast]
  by_cases h2:w.data.toList <+: restL s i
  ·rw [if_pos ((ext_iff s w i h).2 h2),if_pos h2]
  ·rw [if_neg (fun h3=>h2 ((ext_iff s w i h).1 h3)),if_neg h2]
 ·rw [decide_eq_true (by omega)]
  refine (r06_word.j0.eq_2 ..).trans ?_
  rw [if_pos rfl,if_neg]
  intro h2
  have h3:=h2.length_le
  rw [restL_len] at h3
  have h4:w.data.toList.length=w.size:=rfl
  by_cases h5:s.size≤i
  ·have:w.size=0:=by omega
   omega
  ·omega
theorem word_ev (s w:ByteArray) (i:Nat) (hs:s.size≤1048576) (hi:i≤s.size) (hw:w.size≤100):Ev (fun k=>r06_word.f k s (i:Int) w) (wordI s i w) :=
 Ev.step (fun k=>word_f k s w i hs hi hw) (Ev.now _)
def isDg (c:UInt8):Bool:=decide (48≤c.toNat) && decide (c.toNat≤57)
def digs:Nat→List UInt8→List UInt8
 | 0,_=>[]
 | _+1,[]=>[]
 | n+1,c :: r=>if isDg c=true then c :: digs n r else []
def valD (l:List UInt8):Nat:=l.foldl (fun a c=>10 * a+(c.toNat - 48)) 0
theorem valD_snoc (l:List UInt8) (c:UInt8):valD (l++[c])=10 * valD l+(c.toNat - 48):=by unfold valD;rw [List.foldl_append];rfl
theorem digs_dg:∀ (n:Nat) (l:List UInt8),∀ c ∈ digs n l,isDg c=true
 | 0,_,c,h=>by cases h
 | _+1,[],c,h=>by cases h
 | n+1,d :: r,c,h=>by
  rw [digs] at h
  split at h
  ·rcases List.mem_cons.1 h with rfl|h
   ·assumption
   ·exact digs_dg n r c h
  ·cases h
theorem digs_pre:∀ (n:Nat) (l:List UInt8),digs n l <+: l
 | 0,_=>List.nil_prefix
 | _+1,[]=>List.nil_prefix
 | n+1,c :: r=>by
  rw [digs];split
  ·exact List.cons_prefix_cons.2 ⟨rfl,digs_pre n r⟩
  ·exact List.nil_prefix
theorem snocI {α:Type} {P:List α→Prop} (h0:P []) (h1:∀ l c,P l→P (l++[c])):∀ l,P l:=by
 intro l
 rw [← l.reverse_reverse]
 induction l.reverse with
 | nil=>exact h0
 | cons a r ih=>rw [List.reverse_cons];exact h1 _ _ ih
theorem isDg_iff (c:UInt8):isDg c=true ↔ 48≤c.toNat∧c.toNat≤57:=by
 unfold isDg;rw [Bool.and_eq_true,decide_eq_true_eq,decide_eq_true_eq]
theorem valD_le:∀ (l:List UInt8),(∀ c ∈ l,isDg c=true)→valD l<10 ^ l.length:=by
 apply snocI
 ·intro _;decide
 ·intro l c ih h
  rw [valD_snoc,List.length_append,List.length_singleton,Nat.pow_succ]
  have h1:=ih (fun d hd=>h d (List.mem_append_left _ hd))
  have h2:=(isDg_iff c).1 (h c (by simp))
  omega
theorem digs_stop:∀ (m:Nat) (r:List UInt8),(digs m r).length=m→(∀ c,r[m]?=some c→isDg c=false)→∀ n,m≤n→digs n r=digs m r
 | 0,[],_,_,0,_=>rfl
 | 0,[],_,_,_+1,_=>rfl
 | 0,c :: r,_,_,0,_=>rfl
 | 0,c :: r,_,h,n+1,_=>by
  show (if isDg c=true then c :: digs n r else [])=[]
  rw [h c rfl];rfl
 | m+1,[],hl,_,_,_=>by cases hl
 | m+1,c :: r,hl,h,0,hn=>by omega
 | m+1,c :: r,hl,h,n+1,hn=>by
  rw [digs] at hl
  by_cases hc:isDg c=true
  ·rw [if_pos hc,List.length_cons] at hl
   rw [digs,digs,if_pos hc,if_pos hc,digs_stop m r (by omega) (by simpa using h) n (by omega)]
  ·rw [if_neg hc] at hl;cases hl
theorem digs_more:∀ (m:Nat) (r:List UInt8) (c:UInt8),(digs m r).length=m→r[m]?=some c→isDg c=true→digs (m+1) r=digs m r++[c]
 | 0,[],_,_,h,_=>by simp at h
 | 0,d :: r,c,_,h,hc=>by
  obtain rfl:d=c:=by simpa using h
  show (if isDg d=true then d :: digs 0 r else [])=[]++[d]
  rw [if_pos hc];cases r<;>rfl
 | m+1,[],_,hl,_,_=>by cases hl
 | m+1,d :: r,c,hl,h,hc=>by
  rw [digs] at hl
  by_cases hd:isDg d=true
  ·rw [if_pos hd,List.length_cons] at hl
   rw [digs,digs,if_pos hd,if_pos hd,digs_more m r c (by omega) (by simpa using h) hc];rfl
  ·rw [if_neg hd] at hl;cases hl
def numN (s:ByteArray) (i:Nat):Option (Int × Nat) :=
 let ds:=digs 11 (restL s i)
 if ds=[]∨(1<ds.length∧ds.head?=some 48)∨2147483647<valD ds then none else some ((valD ds:Int),i+ds.length)
def numI (s:ByteArray) (i:Nat):Int × Int:=match numN s i with
 | some p=>(p.1,(p.2:Int))
 | none=>(-1,0)
def numEnd (s:ByteArray) (i m:Nat) (v:Int):Int × Int :=
 if m=0 then (-1,0) else if 1<m∧bt s (i:Int)=48 then (-1,0) else if v > 2147483647 then (-1,0) else (v,((i+m:Nat):Int))
theorem num_tail (s:ByteArray) (i m:Nat) (v:Int) (hs:s.size≤1048576) (h:i+m≤s.size) :
  (if ((i+m:Nat):Int)=(i:Int) then (some ((-1:Int),(0:Int))) else (if ((i+m:Nat):Int) > (wrap64 ((i:Int)+1)) then (if 0≤(i:Int) then (if (i:Int)<(s.size:Int) then (if (bt s (i:Int))=48 then (some ((-1),0)) else (if v > 2147483647 then (some ((-1),0)) else (some (v,((i+m:Nat):Int))))) else (none)) else (none)) else (if v > 2147483647 then (some ((-1),0)) else (some (v,((i+m:Nat):Int))))))=some (numEnd s i m v):=by
 unfold numEnd
 rw [w_in (by omega) (by omega)]
 by_cases h0:m=0
 ·rw [if_pos (by omega),if_pos h0]
 ·rw [if_neg (by omega),if_neg h0]
  by_cases h1:1<m
  ·rw [if_pos (by omega),if_pos (by omega),if_pos (by omega)]
   by_cases h2:bt s (i:Int)=48
   ·rw [if_pos h2,if_pos ⟨h1,h2⟩]
   ·rw [if_neg h2,if_neg (show ¬ (1<m∧bt s (i:Int)=48) from fun h3=>h2 h3.2)]
    split<;>rfl
  ·rw [if_neg (by omega),if_neg (show ¬ (1<m∧bt s (i:Int)=48) from fun h3=>h1 h3.1)]
   split<;>rfl
theorem rest_get (s:ByteArray) (i m:Nat):(restL s i)[m]?=s.data.toList[i+m]?:=by unfold restL;rw [List.getElem?_drop]
theorem num_l0 (s:ByteArray) (i:Nat) (hs:s.size≤1048576):∀ (d m:Nat),d+m=11→(digs m (restL s i)).length=m→i+m≤s.size →
  Ev (fun k=>r06_number.l0 k s (i:Int) (valD (digs m (restL s i)):Int) ((i+m:Nat):Int)) (numEnd s i (digs 11 (restL s i)).length (valD (digs 11 (restL s i)):Int))
 | d,m,hd,hm,hi=>by
  have hv:=valD_le (digs m (restL s i)) (digs_dg _ _)
  rw [hm] at hv
  have hv2:valD (digs m (restL s i))<10 ^ 11:=Nat.lt_of_lt_of_le hv (Nat.pow_le_pow_right (by decide) (by omega))
  have hstop:(∀ c,(restL s i)[m]?=some c→isDg c=false)→Ev (fun _:Nat=>some (numEnd s i m (valD (digs m (restL s i)):Int))) (numEnd s i (digs 11 (restL s i)).length (valD (digs 11 (restL s i)):Int)):=by
   intro h
   rw [digs_stop m _ hm h 11 (by omega),hm]
   exact Ev.now _
  refine Ev.step (fun _=>r06_number.l0.eq_2 ..) ?_
  simp only [num_tail s i m _ hs hi]
  by_cases h1:i+m<s.size
  ·have hg:(restL s i)[m]?=some (s.data.toList[i+m]'h1):=by rw [rest_get];exact List.getElem?_eq_getElem h1
   have hb:=bt_get s (i+m) h1
   generalize s.data.toList[i+m]'h1=c at hg hb
   simp only [if_pos (show ((i+m:Nat):Int)<(s.size:Int) by omega),if_pos (show 0≤((i+m:Nat):Int) by omega),hb]
   by_cases h2:isDg c=true
   ·have h3:=(isDg_iff c).1 h2
    simp only [if_pos (show ((c.toNat:Nat):Int) ≥ 48 by omega),if_pos (show ((c.toNat:Nat):Int)≤57 by omega)]
    rw [w_in (x:=(i:Int)+11) (by omega) (by omega)]
    rcases d with _|d
    ·obtain rfl:m=11:=by omega
     simp only [if_neg (show ¬ ((i+11:Nat):Int)<(i:Int)+11 by omega)]
     rw [hm];exact Ev.now _
    ·simp only [if_pos (show ((i+m:Nat):Int)<(i:Int)+11 by omega)]
     have hm':=digs_more m (restL s i) c hm hg h2
     have hv3:valD (digs (m+1) (restL s i))=10 * valD (digs m (restL s i))+(c.toNat - 48):=by rw [hm',valD_snoc]
     have ih:=num_l0 s i hs d (m+1) (by omega) (by rw [hm',List.length_append,hm];rfl) (by omega)
     have e1:wrap64 ((wrap64 ((wrap64 (10 * ((valD (digs m (restL s i)):Nat):Int)))+(wrap64 ((c.toNat:Nat):Int)))) - 48)=((valD (digs (m+1) (restL s i)):Nat):Int):=by
      have:(10:Nat) ^ 11=100000000000:=by decide
      rw [hv3]
      generalize valD (digs m (restL s i))=V at hv2
      rw [this] at hv2
      rw [w_in (x:=10 * (V:Int)) (by omega) (by omega),w_in (x:=(c.toNat:Int)) (by omega) (by omega),w_in (x:=10 * (V:Int)+(c.toNat:Int)) (by omega) (by omega),w_in (by omega) (by omega)]
      omega
     have e2:wrap64 (((i+m:Nat):Int)+1)=((i+(m+1):Nat):Int):=by rw [w_in (by omega) (by omega)];omega
     rw [e1,e2]
     exact ih
   ·have h4:Ev (fun _:Nat=>some (numEnd s i m (valD (digs m (restL s i)):Int))) (numEnd s i (digs 11 (restL s i)).length (valD (digs 11 (restL s i)):Int)):=hstop (fun d hd=>by
     rw [hg] at hd
     obtain rfl:=Option.some.inj hd
     exact Bool.eq_false_iff.2 h2)
    by_cases h5:((c.toNat:Nat):Int) ≥ 48
    ·have h6:¬ ((c.toNat:Nat):Int)≤57:=fun h7=>h2 ((isDg_iff c).2 ⟨by omega,by omega⟩)
     simp only [if_pos h5,if_neg h6];exact h4
    ·simp only [if_neg h5];exact h4
  ·simp only [if_neg (show ¬ ((i+m:Nat):Int)<(s.size:Int) by omega)]
   exact hstop (fun c hc=>by
    rw [rest_get,List.getElem?_eq_none (by show s.size≤_;omega)] at hc
    cases hc)
theorem numI_end (s:ByteArray) (i:Nat):numI s i=numEnd s i (digs 11 (restL s i)).length (valD (digs 11 (restL s i)):Int):=by
 have hp:=digs_pre 11 (restL s i)
 unfold numI numN numEnd
 generalize digs 11 (restL s i)=ds at hp
 rcases ds with _|⟨c,r⟩
 ·rfl
 ·have hl:i<s.size:=by
   have h1:=hp.length_le
   rw [restL_len,List.length_cons] at h1;omega
  have hb:bt s (i:Int)=48 ↔ c=48:=by
   have h1:=bt_eq s i hl 48
   have h2:s.data.toList[i]'hl=c:=by
    obtain ⟨t,ht⟩:=hp
    have h3:=rest_get s i 0
    rw [← ht,Nat.add_zero,List.getElem?_eq_getElem hl] at h3
    exact (Option.some.inj h3).symm
   rw [h2] at h1;exact h1
  simp only [reduceCtorEq,false_or,List.head?_cons,Option.some.injEq,List.length_cons,hb,Nat.succ_ne_zero,if_false]
  by_cases h1:1<r.length+1∧c=48
  ·rw [if_pos h1,if_pos (.inl h1)]
  ·rw [if_neg h1]
   by_cases h2:2147483647<valD (c :: r)
   ·rw [if_pos (.inr h2),if_pos (by omega)]
   ·rw [if_neg (fun h3=>h3.elim h1 h2),if_neg (by omega)]
theorem number_ev (s:ByteArray) (i:Nat) (hs:s.size≤1048576) (hi:i≤s.size):Ev (fun k=>r06_number.f k s (i:Int)) (numI s i):=by
 rw [numI_end]
 exact num_l0 s i hs 11 0 rfl rfl hi
end Go.Proofs.YtamojbfmphainaaDoor.Pr
-- shrunk
/-
A head read by the document is the head that the program reads.
-/
namespace Go.Proofs.YtamojbfmphainaaDoor.Pr
open Go.RowKit Go.Proofs.YtamojbfmphainaaDoorW.PrintWords Go.Proofs.YtamojbfmphainaaDoorW.PrintLast Go.Proofs.YtamojbfmphainaaDoorW.PrintMore
def readN (s:ByteArray):List ByteArray→Nat→List Int→Option (List Int × Nat)
 | [],i,n=>some (n,i)
 | w :: ws,i,n=>(wordN s i w).bind fun a=>(numN s a).bind fun p=>readN s ws p.2 (n++[p.1])
def signsL:List ByteArray:=[(⟨#[64,64,32,45]⟩:ByteArray),(⟨#[44]⟩:ByteArray),(⟨#[32,43]⟩:ByteArray),(⟨#[44]⟩:ByteArray)]
def endW:ByteArray:=⟨#[32,64,64,10]⟩
def lessI (a n:Int):Int:=if n > 0 then a - 1 else a
def fourN (s:ByteArray):List Int × Nat→Option Hk
 | ([a,b,c,d],i)=>if wordN s i endW=some s.size∧¬ (a=0∧b > 0)∧¬ (c=0∧d > 0) then some ⟨lessI a b,b,lessI c d,d,[]⟩ else none
 | _=>none
def headN (s:ByteArray):Option Hk:=(readN s signsL 0 []).bind (fourN s)
theorem dec_val:∀ (l:List UInt8),l≠[]→(∀ c ∈ l,isDg c=true)→(1<l.length→l.head?≠some 48)→Lib.decDigits (valD l)=l:=by
 apply snocI
 ·intro h;exact absurd rfl h
 ·intro l c ih _ hd hz
  have hc:=(isDg_iff c).1 (hd c (by simp))
  have hcc:UInt8.ofNat (48+(c.toNat - 48))=c:=by
   apply UInt8.toNat_inj.1
   rw [UInt8.toNat_ofNat'];omega
  rw [valD_snoc]
  by_cases hl:l=[]
  ·subst hl
   show Lib.decDigits (10 * 0+(c.toNat - 48))=[c]
   rw [Nat.mul_zero,Nat.zero_add,Lib.decDigits_one (by omega),hcc]
  ·have hz2:l.head?≠some 48:=by
    have h1:=hz (by rw [List.length_append,List.length_singleton];have:=List.length_pos_iff.2 hl;omega)
    rcases l with _|⟨a,r⟩
    ·exact absurd rfl hl
    ·simpa using h1
   have h2:=ih hl (fun d h=>hd d (List.mem_append_left _ h)) (fun _=>hz2)
   have hpos:0<valD l:=by
    rcases Nat.eq_zero_or_pos (valD l) with h0|h0
    ·exfalso
     rw [h0] at h2
     rw [Lib.decDigits_one (by omega)] at h2
     rw [← h2] at hz2
     exact hz2 rfl
    ·exact h0
   rw [Lib.decDigits,dif_neg (by omega),show (10 * valD l+(c.toNat - 48)) / 10=valD l by omega,h2,show (10 * valD l+(c.toNat - 48)) % 10=c.toNat - 48 by omega,hcc]
theorem val_dec:∀ (u:Nat),valD (Lib.decDigits u)=u:=by
 intro u
 induction u using Nat.strongRecOn with
 | ind u ih =>
  by_cases h:u<10
  ·rw [Lib.decDigits_one h]
   show 10 * 0+((UInt8.ofNat (48+u)).toNat - 48)=u
   rw [UInt8.toNat_ofNat'];omega
  ·rw [Lib.decDigits,dif_neg h,valD_snoc,ih (u / 10) (by omega),UInt8.toNat_ofNat'];omega
theorem dec_head:∀ (u:Nat),0<u→(Lib.decDigits u).head?≠some 48:=by
 intro u
 induction u using Nat.strongRecOn with
 | ind u ih =>
  intro hu
  by_cases h:u<10
  ·rw [Lib.decDigits_one h]
   intro e
   have e2:UInt8.ofNat (48+u)=48:=by simpa using e
   have e3:=congrArg UInt8.toNat e2
   rw [UInt8.toNat_ofNat'] at e3
   have:(48:UInt8).toNat=48:=rfl
   omega
  ·have h1:=ih (u / 10) (by omega) (by omega)
   have h2:=dec_ne (u / 10)
   rw [Lib.decDigits,dif_neg h]
   rcases hd:Lib.decDigits (u / 10) with _|⟨a,r⟩
   ·exact absurd hd h2
   ·rw [hd] at h1;simpa using h1
theorem dec_len (u:Nat) (hu:u<2147483648):(Lib.decDigits u).length≤10:=by
 have h:=dec_val _ (dec_ne u) (fun c hc=>(isDg_iff c).2 (dec_range u c hc))
 rcases Nat.lt_or_ge 10 (Lib.decDigits u).length with hl|hl
 ·exfalso
  have h1:∀ (k u:Nat),(Lib.decDigits u).length=k+1→0<u→10 ^ k≤u:=by
   intro k
   induction k with
   | zero=>intro u _ h0;exact h0
   | succ k ih =>
    intro u hk h0
    by_cases hs:u<10
    ·rw [Lib.decDigits_one hs] at hk;simp at hk
    ·rw [Lib.decDigits,dif_neg hs,List.length_append,List.length_singleton] at hk
     have:=ih (u / 10) (by omega) (by omega)
     rw [Nat.pow_succ];omega
  obtain ⟨k,hk⟩:∃ k,(Lib.decDigits u).length=k+1:=⟨(Lib.decDigits u).length - 1,by omega⟩
  have hu0:0<u:=by
   rcases Nat.eq_zero_or_pos u with rfl|h0
   ·rw [Lib.decDigits_one (by decide)] at hl;simp at hl
   ·exact h0
  have h2:=h1 k u hk hu0
  have h3:10 ^ 10≤10 ^ k:=Nat.pow_le_pow_right (by decide) (by omega)
  have h4:(10:Nat) ^ 10=10000000000:=by decide
  omega
 ·exact hl
theorem itoaB_dec (u:Nat):(itoaB (u:Int)).data.toList=Lib.decDigits u:=by
 unfold itoaB;rw [Lib.itoa_nonneg]
def noDg (r:List UInt8):Prop:=∀ c,r.head?=some c→isDg c=false
theorem digs_all:∀ (n:Nat) (l r:List UInt8),(∀ c ∈ l,isDg c=true)→l.length<n→noDg r→digs n (l++r)=l
 | 0,_,_,_,h,_=>by omega
 | n+1,[],[],_,_,_=>rfl
 | n+1,[],c :: r,_,_,h=>by rw [List.nil_append,digs,h c rfl];rfl
 | n+1,c :: l,r,hd,hl,h=>by
  rw [List.cons_append,digs,if_pos (hd c List.mem_cons_self),digs_all n l r (fun d h=>hd d (List.mem_cons_of_mem _ h)) (by rw [List.length_cons] at hl;omega) h]
theorem numN_fwd (s:ByteArray) (i:Nat) (v:Int) (r:List UInt8) (h0:0≤v) (h1:v<2147483648) (hr:noDg r) (h:restL s i=(itoaB v).data.toList++r):numN s i=some (v,i+(itoaB v).size):=by
 obtain ⟨u,rfl⟩:∃ u:Nat,v=u:=⟨v.toNat,by omega⟩
 have hd:=digs_all 11 (Lib.decDigits u) r (fun c hc=>(isDg_iff c).2 (dec_range u c hc)) (by have:=dec_len u (by omega);omega) hr
 have hz:(itoaB (u:Int)).size=(Lib.decDigits u).length:=by rw [← itoaB_dec];rfl
 unfold numN
 rw [h,itoaB_dec,hd,hz]
 simp only [val_dec]
 rw [if_neg]
 rintro (h2|⟨h2,h3⟩|h2)
 ·exact dec_ne u h2
 ·rcases Nat.eq_zero_or_pos u with rfl|hu
  ·rw [Lib.decDigits_one (by decide)] at h2;simp at h2
  ·exact dec_head u hu h3
 ·omega
theorem numN_back (s:ByteArray) (i j:Nat) (v:Int) (h:numN s i=some (v,j)):0≤v∧v<2147483648∧restL s i=(itoaB v).data.toList++restL s j∧(i≤s.size→j≤s.size):=by
 have hp:=digs_pre 11 (restL s i)
 have hd:=digs_dg 11 (restL s i)
 unfold numN at h
 generalize digs 11 (restL s i)=ds at hp hd h
 simp only at h
 split at h
 ·cases h
 ·rename_i hn
  obtain ⟨rfl,rfl⟩:(valD ds:Int)=v∧i+ds.length=j:=by
   have:=Option.some.inj h
   exact ⟨congrArg (·.1) this,congrArg (·.2) this⟩
  obtain ⟨t,ht⟩:=hp
  have h1:ds≠[]:=fun e=>hn (.inl e)
  have h2:1<ds.length→ds.head?≠some 48:=fun a b=>hn (.inr (.inl ⟨a,b⟩))
  have h3:¬ 2147483647<valD ds:=fun a=>hn (.inr (.inr a))
  have h4:restL s (i+ds.length)=t:=by
   unfold restL at ht ⊢
   rw [← List.drop_drop,← ht,List.drop_left]
  refine ⟨by omega,by omega,?_,?_⟩
  ·rw [itoaB_dec,dec_val ds h1 hd h2,h4,ht]
  ·intro hi
   have h5:=congrArg List.length ht
   rw [List.length_append,restL_len] at h5
   omega
theorem wordN_back (s w:ByteArray) (i j:Nat) (h:wordN s i w=some j):j=i+w.size∧restL s i=w.data.toList++restL s j∧(i≤s.size→j≤s.size):=by
 unfold wordN at h
 split at h
 ·rename_i hp
  obtain rfl:=Option.some.inj h
  obtain ⟨t,ht⟩:=hp
  have h4:restL s (i+w.size)=t:=by
   unfold restL at ht ⊢
   rw [← List.drop_drop,← ht,show w.size=w.data.toList.length from rfl,List.drop_left]
  refine ⟨rfl,by rw [h4,ht],?_⟩
  intro hi
  have h5:=congrArg List.length ht
  rw [List.length_append,restL_len] at h5
  have h6:w.data.toList.length=w.size:=rfl
  omega
 ·cases h
theorem wordN_fwd (s w:ByteArray) (i:Nat) (r:List UInt8) (h:restL s i=w.data.toList++r):wordN s i w=some (i+w.size):=by
 unfold wordN;rw [if_pos (by rw [h];exact List.prefix_append _ _)]
theorem restL_add (s:ByteArray) (i:Nat) (a r:List UInt8) (h:restL s i=a++r):restL s (i+a.length)=r:=by
 unfold restL at h ⊢
 rw [← List.drop_drop,h,List.drop_left]
def toldN:List ByteArray→List Int→List UInt8
 | w :: ws,v :: vs=>w.data.toList++((itoaB v).data.toList++toldN ws vs)
 | _,_=>[]
theorem readN_back (s:ByteArray):∀ (ws:List ByteArray) (i j:Nat) (n m:List Int),readN s ws i n=some (m,j)→∃ vs,m=n++vs∧vs.length=ws.length∧(∀ v ∈ vs,0≤v∧v<2147483648)∧restL s i=toldN ws vs++restL s j∧(i≤s.size→j≤s.size)
 | [],i,j,n,m,h=>by
  obtain ⟨rfl,rfl⟩:n=m∧i=j:=by
   have:=Option.some.inj h
   exact ⟨congrArg (·.1) this,congrArg (·.2) this⟩
  exact ⟨[],by simp,rfl,by simp,by simp [toldN],id⟩
 | w :: ws,i,j,n,m,h=>by
  rw [readN] at h
  obtain ⟨a,ha,h⟩:=Option.bind_eq_some_iff.1 h
  obtain ⟨⟨v,b⟩,hb,h⟩:=Option.bind_eq_some_iff.1 h
  obtain ⟨vs,rfl,hl,hr,ht,hz⟩:=readN_back s ws _ _ _ _ h
  obtain ⟨e1,e2,e3⟩:=wordN_back s w i a ha
  obtain ⟨f1,f2,f3,f4⟩:=numN_back s a b v hb
  refine ⟨v :: vs,by simp,by simp [hl],?_,?_,fun hi=>hz (f4 (e3 hi))⟩
  ·intro x hx
   rcases List.mem_cons.1 hx with rfl|hx
   ·exact ⟨f1,f2⟩
   ·exact hr x hx
  ·rw [e2,f3]
   simp only at ht
   rw [ht,toldN];simp only [List.append_assoc]
theorem readN_fwd (s:ByteArray):∀ (ws:List ByteArray) (vs:List Int) (i:Nat) (n:List Int) (r:List UInt8),vs.length=ws.length→(∀ w ∈ ws,∃ c q,w.data.toList=c :: q∧isDg c=false)→(∀ v ∈ vs,0≤v∧v<2147483648)→noDg r→restL s i=toldN ws vs++r→readN s ws i n=some (n++vs,i+(toldN ws vs).length)
 | [],[],i,n,r,_,_,_,_,_=>by simp [readN,toldN]
 | [],v :: vs,i,n,r,h,_,_,_,_=>by cases h
 | w :: ws,[],i,n,r,h,_,_,_,_=>by cases h
 | w :: ws,v :: vs,i,n,r,hl,hw,hv,hr,h=>by
  rw [toldN,List.append_assoc,List.append_assoc] at h
  have h1:=wordN_fwd s w i _ h
  have h2:restL s (i+w.size)=(itoaB v).data.toList++(toldN ws vs++r):=restL_add s i w.data.toList _ h
  obtain ⟨v0,v1⟩:=hv v List.mem_cons_self
  have hn:noDg (toldN ws vs++r):=by
   rcases ws with _|⟨u,us⟩
   ·rcases vs with _|⟨x,xs⟩
    ·exact hr
    ·cases hl
   ·rcases vs with _|⟨x,xs⟩
    ·cases hl
    ·obtain ⟨c,q,e,hc⟩:=hw u (by simp)
     intro d hd
     rw [toldN,e] at hd
     simp at hd
     rw [← hd];exact hc
  have h3:=numN_fwd s (i+w.size) v _ v0 v1 hn h2
  have h4:restL s (i+w.size+(itoaB v).size)=toldN ws vs++r:=restL_add s (i+w.size) (itoaB v).data.toList _ h2
  rw [readN,h1,Option.bind_some,h3,Option.bind_some]
  simp only
  rw [readN_fwd s ws vs _ _ r (by simpa using hl) (fun w hw'=>hw w (List.mem_cons_of_mem _ hw')) (fun v hv'=>hv v (List.mem_cons_of_mem _ hv')) hr h4]
  rw [toldN,List.length_append,List.length_append]
  have e1:w.data.toList.length=w.size:=rfl
  have e2:(itoaB v).data.toList.length=(itoaB v).size:=rfl
  rw [e1,e2]
  simp [Nat.add_assoc]
theorem lessI_first (a n:Int) (h:0≤a) (hn:¬ (a=0∧n > 0)):firstI (lessI a n) n=a∧0≤lessI a n:=by
 unfold firstI lessI
 split<;>omega
theorem first_lessI (a n:Int):lessI (firstI a n) n=a:=by
 unfold firstI lessI
 split<;>omega
theorem headOf_told (x:Hk):(headOf x).data.toList=toldN signsL [firstI x.f0 x.f1,x.f1,firstI x.f2 x.f3,x.f3]++endW.data.toList:=by
 rw [headOf_bytes]
 unfold fromB
 simp only [ByteArray.data_append,Array.toList_append]
 simp [toldN,signsL,endW]
theorem headN_back {s:ByteArray} {h:Hk} (e:headN s=some h):headOf h=s∧HeadOk h:=by
 unfold headN at e
 obtain ⟨⟨m,j⟩,h1,h2⟩:=Option.bind_eq_some_iff.1 e
 obtain ⟨vs,hvs,hl,hr,ht,hz⟩:=readN_back s _ _ _ _ _ h1
 rw [List.nil_append] at hvs
 subst hvs
 have hl4:m.length=4:=hl
 obtain ⟨a,b,c,d,rfl⟩:∃ a b c d,m=[a,b,c,d]:=by
  rcases m with _|⟨a,_|⟨b,_|⟨c,_|⟨d,_|⟨x,r⟩⟩⟩⟩⟩
  ·cases hl4
  ·cases hl4
  ·cases hl4
  ·cases hl4
  ·exact ⟨a,b,c,d,rfl⟩
  ·cases hl4
 simp only [fourN] at h2
 split at h2
 ·rename_i hc
  obtain ⟨hw,n1,n2⟩:=hc
  obtain rfl:=Option.some.inj h2
  obtain ⟨g1,g2,g3⟩:=wordN_back s endW j s.size hw
  have ra:=hr a (by simp)
  have rb:=hr b (by simp)
  have rc:=hr c (by simp)
  have rd:=hr d (by simp)
  obtain ⟨fa,la⟩:=lessI_first a b ra.1 n1
  obtain ⟨fc,lc⟩:=lessI_first c d rc.1 n2
  refine ⟨?_,⟨la,by rw [fa];exact ra.2,rb.1,rb.2,lc,by rw [fc];exact rc.2,rd.1,rd.2⟩⟩
  apply ByteArray.ext
  apply Array.toList_inj.1
  rw [headOf_told]
  simp only
  rw [fa,fc]
  have g4:restL s s.size=[]:=List.length_eq_zero_iff.1 (by rw [restL_len];omega)
  rw [g4,List.append_nil] at g2
  rw [g2] at ht
  exact ht.symm
 ·cases h2
theorem headN_fwd (x:Hk) (h:HeadOk x):headN (headOf x)=some ⟨x.f0,x.f1,x.f2,x.f3,[]⟩:=by
 have ht:=headOf_told x
 have a0:=h.a0;have b0:=h.b0;have c0:=h.c0;have d0:=h.d0
 have fa:0≤firstI x.f0 x.f1:=by unfold firstI;split<;>omega
 have fc:0≤firstI x.f2 x.f3:=by unfold firstI;split<;>omega
 have h1:=readN_fwd (headOf x) signsL [firstI x.f0 x.f1,x.f1,firstI x.f2 x.f3,x.f3] 0 [] endW.data.toList rfl
  (by
   intro w hw
   simp only [signsL,List.mem_cons,List.not_mem_nil,or_false] at hw
   rcases hw with rfl|rfl|rfl|rfl
   ·exact ⟨64,[64,32,45],rfl,rfl⟩
   ·exact ⟨44,[],rfl,rfl⟩
   ·exact ⟨32,[43],rfl,rfl⟩
   ·exact ⟨44,[],rfl,rfl⟩)
  (by
   intro v hv
   simp only [List.mem_cons,List.not_mem_nil,or_false] at hv
   rcases hv with rfl|rfl|rfl|rfl
   ·exact ⟨fa,h.a1⟩
   ·exact ⟨b0,h.b1⟩
   ·exact ⟨fc,h.c1⟩
   ·exact ⟨d0,h.d1⟩)
  (by
   intro c hc
   obtain rfl:(32:UInt8)=c:=by simpa [endW] using hc
   rfl)
  ht
 unfold headN
 rw [h1,Option.bind_some,List.nil_append]
 have h2:wordN (headOf x) (0+(toldN signsL [firstI x.f0 x.f1,x.f1,firstI x.f2 x.f3,x.f3]).length) endW=some (headOf x).size:=by
  have h3:=restL_add (headOf x) 0 _ _ ht
  rw [wordN_fwd (headOf x) endW _ [] (by rw [h3,List.append_nil])]
  have h4:=congrArg List.length ht
  rw [List.length_append] at h4
  have e1:(headOf x).data.toList.length=(headOf x).size:=rfl
  have e2:endW.data.toList.length=endW.size:=rfl
  rw [e1,e2] at h4
  rw [h4,Nat.zero_add]
 unfold fourN
 simp only
 rw [if_pos ⟨h2,by unfold firstI;split<;>omega,by unfold firstI;split<;>omega⟩,first_lessI,first_lessI]
theorem headN_eq (s:ByteArray):headN s=headB s:=by
 rcases hb:headB s with _|h
 ·rcases hn:headN s with _|x
  ·rfl
  ·obtain ⟨e,ok⟩:=headN_back hn
   have:=head_at x ok
   rw [e,hb] at this
   cases this
 ·obtain ⟨e,ok,h4⟩:=headB_back hb
  have h1:=headN_fwd h ok
  rw [e] at h1
  rw [h1]
  obtain ⟨f0,f1,f2,f3,f4⟩:=h
  simp only at h4
  subst h4
  rfl
end Go.Proofs.YtamojbfmphainaaDoor.Pr
-- shrunk
