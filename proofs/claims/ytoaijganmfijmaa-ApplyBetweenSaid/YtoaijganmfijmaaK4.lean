/-
Several plain texts in one.
-/
import Derived.Test.YtoaijganmfijmaaK0
import Derived.Test.YtoaijganmfijmaaK1
set_option linter.unusedVariables false
set_option linter.unusedSimpArgs false
-- written by a program of this session's (a turned copy of the kit's printer); Lean checks it
namespace Go.Proofs.Ytoaijganmfijmaa.Pr
open Go.RowKit Go.Proofs.YtoaijganmfijmaaW.PrintWords Go.Proofs.YtoaijganmfijmaaW.PrintLast Go.Proofs.YtoaijganmfijmaaW.PrintMore
attribute [local go_sem] max2_int min2_int max_two min_two max_three min_three max_four min_four   -- for this text's walks alone

mutual
def r04_Right.l0:Nat→Int→List (S53)→Int→Option (Bool)
 | 0,_,_,_=>none
 | k+1,x0,x1,x5=>if x5<(x1.length:Int) then (if 0≤x5 then (if ((rd_T53 x1 x5).f0)<0 then (r04_Right.j1 k x0 x1 x5 true) else (if ((rd_T53 x1 x5).f1)<0 then (r04_Right.j1 k x0 x1 x5 true) else (if ((rd_T53 x1 x5).f0) > x0 then (r04_Right.j1 k x0 x1 x5 true) else (r04_Right.j1 k x0 x1 x5 (decide (((rd_T53 x1 x5).f1) > (wrap64 (x0 - ((rd_T53 x1 x5).f0))))))))) else (none)) else (some true)
def r04_Right.j1:Nat→Int→List (S53)→Int→Bool→Option (Bool)
 | 0,_,_,_,_=>none
 | k+1,x0,x1,x5,x49=>if x49=true then (some false) else (if 0≤x5 then (if x5<(x1.length:Int) then (if ((rd_T53 x1 x5).f1)=0 then (r04_Right.j2 k x0 x1 x5 ((((rd_T53 x1 x5).f2).length:Int) == 0)) else (r04_Right.j2 k x0 x1 x5 false)) else (none)) else (none))
def r04_Right.j2:Nat→Int→List (S53)→Int→Bool→Option (Bool)
 | 0,_,_,_,_=>none
 | k+1,x0,x1,x5,x64=>if x64=true then (some false) else (if x5 > 0 then (if 0≤x5 then (if x5<(x1.length:Int) then (if 0≤(wrap64 (x5 - 1)) then (if (wrap64 (x5 - 1))<(x1.length:Int) then (if ((rd_T53 x1 x5).f0)≤(wrap64 (((rd_T53 x1 (wrap64 (x5 - 1))).f0)+((rd_T53 x1 (wrap64 (x5 - 1))).f1))) then (some false) else (r04_Right.l0 k x0 x1 (wrap64 (x5+1)))) else (none)) else (none)) else (none)) else (none)) else (r04_Right.l0 k x0 x1 (wrap64 (x5+1))))
end
def r04_Right.f (k:Nat) (a0:Int) (l1:List (S53)):Option (Bool):=r04_Right.l0 k a0 l1 0
theorem r04_Right.mono_l:∀ k,(∀ y0 y1 y2,LeO (r04_Right.l0 k y0 y1 y2) (r04_Right.l0 (k+1) y0 y1 y2))∧(∀ y0 y1 y2 y3,LeO (r04_Right.j1 k y0 y1 y2 y3) (r04_Right.j1 (k+1) y0 y1 y2 y3))∧(∀ y0 y1 y2 y3,LeO (r04_Right.j2 k y0 y1 y2 y3) (r04_Right.j2 (k+1) y0 y1 y2 y3))
 | 0=>⟨fun _ _ _ r h=>by simp [r04_Right.l0] at h,fun _ _ _ _ r h=>by simp [r04_Right.j1] at h,fun _ _ _ _ r h=>by simp [r04_Right.j2] at h⟩
 | k+1=>by
  obtain ⟨ih0,ih1,ih2⟩:=r04_Right.mono_l k
  refine ⟨?_,?_,?_⟩
  ·intro y0 y1 y2
   unfold r04_Right.l0
   repeat' first
   | (with_reducible exact ih0 _ _ _)
   | (with_reducible exact ih1 _ _ _ _)
   | (with_reducible exact ih2 _ _ _ _)
   | (with_reducible exact LeO.refl _)
   | (with_reducible exact LeO.none _)
   | (with_reducible refine LeO.ite ?_ ?_)
   | (with_reducible refine LeO.bind ?_ (fun _=>?_))
   | exact ih0 _ _ _
   | exact ih1 _ _ _ _
   | exact ih2 _ _ _ _
   | exact LeO.none _
   | refine LeO.ite ?_ ?_
   | refine LeO.bind ?_ (fun _=>?_)
  ·intro y0 y1 y2 y3
   unfold r04_Right.j1
   repeat' first
   | (with_reducible exact ih0 _ _ _)
   | (with_reducible exact ih1 _ _ _ _)
   | (with_reducible exact ih2 _ _ _ _)
   | (with_reducible exact LeO.refl _)
   | (with_reducible exact LeO.none _)
   | (with_reducible refine LeO.ite ?_ ?_)
   | (with_reducible refine LeO.bind ?_ (fun _=>?_))
   | exact ih0 _ _ _
   | exact ih1 _ _ _ _
   | exact ih2 _ _ _ _
   | exact LeO.none _
   | refine LeO.ite ?_ ?_
   | refine LeO.bind ?_ (fun _=>?_)
  ·intro y0 y1 y2 y3
   unfold r04_Right.j2
   repeat' first
   | (with_reducible exact ih0 _ _ _)
   | (with_reducible exact ih1 _ _ _ _)
   | (with_reducible exact ih2 _ _ _ _)
   | (with_reducible exact LeO.refl _)
   | (with_reducible exact LeO.none _)
   | (with_reducible refine LeO.ite ?_ ?_)
   | (with_reducible refine LeO.bind ?_ (fun _=>?_))
   | exact ih0 _ _ _
   | exact ih1 _ _ _ _
   | exact ih2 _ _ _ _
   | exact LeO.none _
   | refine LeO.ite ?_ ?_
   | refine LeO.bind ?_ (fun _=>?_)
theorem r04_Right.mono:∀ a0 a1 k,LeO (r04_Right.f k a0 a1) (r04_Right.f (k+1) a0 a1):=by
 intro a0 a1 k
 obtain ⟨ih0,ih1,ih2⟩:=r04_Right.mono_l k
 unfold r04_Right.f
 repeat' first
   | (with_reducible exact ih0 _ _ _)
   | (with_reducible exact ih1 _ _ _ _)
   | (with_reducible exact ih2 _ _ _ _)
   | (with_reducible exact LeO.refl _)
   | (with_reducible exact LeO.none _)
   | (with_reducible refine LeO.ite ?_ ?_)
   | (with_reducible refine LeO.bind ?_ (fun _=>?_))
   | exact ih0 _ _ _
   | exact ih1 _ _ _ _
   | exact ih2 _ _ _ _
   | exact LeO.none _
   | refine LeO.ite ?_ ?_
   | refine LeO.bind ?_ (fun _=>?_)
set_option maxHeartbeats 8000000 in
set_option maxRecDepth 100000 in
theorem r04_Right.calls (k:Nat) (a0:Int) (A1:Option Addr) (c1:Nat) (l1:List (S53)) (r:Bool) (w:World) (hr1:Kd.C k53 w A1 l1.length l1) (hc1:l1.length≤c1) (h:r04_Right.f k a0 l1=some r) :
  Calls Try.prog 31 #[.int .i64 a0,.slice A1 l1.length c1] w fun e w'=>e=.returned (.bool r)∧Drawn0 w w':=by
 have HR1:=Aside0.mk hr1
 have HC1:=Aside0.mk hc1
 clear hr1 hc1
 have H:(r04_Right.l0 k a0 l1 0)=some r:=h
 clear h
 have H':=Aside0.mk H
 clear H
 go_enter Try.func31,Try.ntmps31
 go_wp2
 go_loopg [5] k (fun kq v5 w'=>∃ (x5_1:Int),v5=.int .i64 x5_1∧Aside0 (r04_Right.l0 kq a0 l1 x5_1=some r)∧Aside0 (kq≤k)∧Drawn0 w w')
 case atStart=>exact ⟨(0),rx,H',⟨Nat.le_refl _⟩,by repeat (first|exact Drawn0.refl _|apply Drawn0.step)⟩
 case round =>
  clear H'
  try clear c1
  try clear p2
  obtain ⟨x5_1,rfl,HA,HK1,⟨m1,rfl⟩⟩:=hrel
  cases gk with
  | zero=>exact absurd HA.out (by simp [r04_Right.l0])
  | succ k1 =>
   have H:=HA.out
   clear HA
   simp only [r04_Right.l0] at H
   by_cases c3:x5_1<(l1.length:Int)
   ·rw [if_pos c3] at H
    have c3b0:decide (x5_1<(l1.length:Int))=true:=decide_eq_true c3
    clear c3
    have HC4:=Aside0.mk H
    clear H
    go_upto_region 4 with (fail)
    go_cut [49] (fun v49 wc=>∃ (kq:Nat) (x49_3:Bool),v49=.bool x49_3∧Aside0 (r04_Right.j1 kq a0 l1 x5_1 x49_3=some r)∧Aside0 (kq≤k1)∧Drawn0 w wc)
    case first =>
     have H:=HC4.out
     clear HC4
     by_cases c5:0≤x5_1
     ·rw [if_pos c5] at H
      have c5b0:decide (0≤x5_1)=true:=decide_eq_true c5
      clear c5
      (first|rw [c5b0]|(simp only [i64_w,i32_w];rw [c5b0])|skip)
      by_cases c6:((rd_T53 l1 x5_1).f0)<0
      ·rw [if_pos c6] at H
       have c6b0:decide (((rd_T53 l1 x5_1).f0)<0)=true:=decide_eq_true c6
       clear c6
       have H':=Aside0.mk H
       clear H
       have p376:0≤(x5_1:Int):=of_decide_eq_true asm
       have q376:x5_1<(l1.length:Int):=of_decide_eq_true asm
       obtain ⟨ad376,A376_2,c376_2,e376,hx376_0,hx376_1,hx376_2,hl376_2,hi376_2⟩:=at_T53 HR1.out x5_1 p376 q376
       cases e376
       have HR376_2:=Aside0.mk hi376_2
       have HC376_2:=Aside0.mk hl376_2
       clear hi376_2 hl376_2
       replace p376:=eq_true p376
       replace q376:=eq_true q376
       go_wp2
       repeat (go_quiet (fail);try go_wp2)
       go_meet
       case rel=>exact ⟨_,(true),rx,H',⟨by have:=HK1.out;first|omega|exact Nat.le_refl _⟩,by repeat (first|exact Drawn0.refl _|apply Drawn0.step)⟩
      ·rw [if_neg c6] at H
       have c6b0:decide (((rd_T53 l1 x5_1).f0)<0)=false:=decide_eq_false c6
       clear c6
       by_cases c7:((rd_T53 l1 x5_1).f1)<0
       ·rw [if_pos c7] at H
        have c7b0:decide (((rd_T53 l1 x5_1).f1)<0)=true:=decide_eq_true c7
        clear c7
        have H':=Aside0.mk H
        clear H
        have p376:0≤(x5_1:Int):=of_decide_eq_true asm
        have q376:x5_1<(l1.length:Int):=of_decide_eq_true asm
        obtain ⟨ad376,A376_2,c376_2,e376,hx376_0,hx376_1,hx376_2,hl376_2,hi376_2⟩:=at_T53 HR1.out x5_1 p376 q376
        cases e376
        have HR376_2:=Aside0.mk hi376_2
        have HC376_2:=Aside0.mk hl376_2
        clear hi376_2 hl376_2
        replace p376:=eq_true p376
        replace q376:=eq_true q376
        have p377:0≤(x5_1:Int):=of_decide_eq_true asm
        have q377:x5_1<(l1.length:Int):=of_decide_eq_true asm
        obtain ⟨ad377,A377_2,c377_2,e377,hx377_0,hx377_1,hx377_2,hl377_2,hi377_2⟩:=at_T53 HR1.out x5_1 p377 q377
        obtain rfl:ad376=ad377:=(by injection e377)
        have HR377_2:=Aside0.mk hi377_2
        have HC377_2:=Aside0.mk hl377_2
        clear hi377_2 hl377_2
        replace p377:=eq_true p377
        replace q377:=eq_true q377
        have ea_:=Option.some.inj (hx376_2.symm.trans hx377_2)
        injection ea_ with ea_ en_ ec_
        subst ea_
        subst ec_
        clear en_
        go_wp2
        repeat (go_quiet (fail);try go_wp2)
        go_meet
        case rel=>exact ⟨_,(true),rx,H',⟨by have:=HK1.out;first|omega|exact Nat.le_refl _⟩,by repeat (first|exact Drawn0.refl _|apply Drawn0.step)⟩
       ·rw [if_neg c7] at H
        have c7b0:decide (((rd_T53 l1 x5_1).f1)<0)=false:=decide_eq_false c7
        clear c7
        by_cases c8:((rd_T53 l1 x5_1).f0) > a0
        ·rw [if_pos c8] at H
         have c8b0:decide (a0<((rd_T53 l1 x5_1).f0))=true:=decide_eq_true c8
         clear c8
         have H':=Aside0.mk H
         clear H
         have p376:0≤(x5_1:Int):=of_decide_eq_true asm
         have q376:x5_1<(l1.length:Int):=of_decide_eq_true asm
         obtain ⟨ad376,A376_2,c376_2,e376,hx376_0,hx376_1,hx376_2,hl376_2,hi376_2⟩:=at_T53 HR1.out x5_1 p376 q376
         cases e376
         have HR376_2:=Aside0.mk hi376_2
         have HC376_2:=Aside0.mk hl376_2
         clear hi376_2 hl376_2
         replace p376:=eq_true p376
         replace q376:=eq_true q376
         have p377:0≤(x5_1:Int):=of_decide_eq_true asm
         have q377:x5_1<(l1.length:Int):=of_decide_eq_true asm
         obtain ⟨ad377,A377_2,c377_2,e377,hx377_0,hx377_1,hx377_2,hl377_2,hi377_2⟩:=at_T53 HR1.out x5_1 p377 q377
         obtain rfl:ad376=ad377:=(by injection e377)
         have HR377_2:=Aside0.mk hi377_2
         have HC377_2:=Aside0.mk hl377_2
         clear hi377_2 hl377_2
         replace p377:=eq_true p377
         replace q377:=eq_true q377
         have ea_:=Option.some.inj (hx376_2.symm.trans hx377_2)
         injection ea_ with ea_ en_ ec_
         subst ea_
         subst ec_
         clear en_
         have p378:0≤(x5_1:Int):=of_decide_eq_true asm
         have q378:x5_1<(l1.length:Int):=of_decide_eq_true asm
         obtain ⟨ad378,A378_2,c378_2,e378,hx378_0,hx378_1,hx378_2,hl378_2,hi378_2⟩:=at_T53 HR1.out x5_1 p378 q378
         obtain rfl:ad376=ad378:=(by injection e378)
         have HR378_2:=Aside0.mk hi378_2
         have HC378_2:=Aside0.mk hl378_2
         clear hi378_2 hl378_2
         replace p378:=eq_true p378
         replace q378:=eq_true q378
         have ea_:=Option.some.inj (hx376_2.symm.trans hx378_2)
         injection ea_ with ea_ en_ ec_
         subst ea_
         subst ec_
         clear en_
         go_wp2
         repeat (go_quiet (fail);try go_wp2)
         go_meet
         case rel=>exact ⟨_,(true),rx,H',⟨by have:=HK1.out;first|omega|exact Nat.le_refl _⟩,by repeat (first|exact Drawn0.refl _|apply Drawn0.step)⟩
        ·rw [if_neg c8] at H
         have c8b0:decide (a0<((rd_T53 l1 x5_1).f0))=false:=decide_eq_false c8
         clear c8
         have H':=Aside0.mk H
         clear H
         have p376:0≤(x5_1:Int):=of_decide_eq_true asm
         have q376:x5_1<(l1.length:Int):=of_decide_eq_true asm
         obtain ⟨ad376,A376_2,c376_2,e376,hx376_0,hx376_1,hx376_2,hl376_2,hi376_2⟩:=at_T53 HR1.out x5_1 p376 q376
         cases e376
         have HR376_2:=Aside0.mk hi376_2
         have HC376_2:=Aside0.mk hl376_2
         clear hi376_2 hl376_2
         replace p376:=eq_true p376
         replace q376:=eq_true q376
         have p377:0≤(x5_1:Int):=of_decide_eq_true asm
         have q377:x5_1<(l1.length:Int):=of_decide_eq_true asm
         obtain ⟨ad377,A377_2,c377_2,e377,hx377_0,hx377_1,hx377_2,hl377_2,hi377_2⟩:=at_T53 HR1.out x5_1 p377 q377
         obtain rfl:ad376=ad377:=(by injection e377)
         have HR377_2:=Aside0.mk hi377_2
         have HC377_2:=Aside0.mk hl377_2
         clear hi377_2 hl377_2
         replace p377:=eq_true p377
         replace q377:=eq_true q377
         have ea_:=Option.some.inj (hx376_2.symm.trans hx377_2)
         injection ea_ with ea_ en_ ec_
         subst ea_
         subst ec_
         clear en_
         have p378:0≤(x5_1:Int):=of_decide_eq_true asm
         have q378:x5_1<(l1.length:Int):=of_decide_eq_true asm
         obtain ⟨ad378,A378_2,c378_2,e378,hx378_0,hx378_1,hx378_2,hl378_2,hi378_2⟩:=at_T53 HR1.out x5_1 p378 q378
         obtain rfl:ad376=ad378:=(by injection e378)
         have HR378_2:=Aside0.mk hi378_2
         have HC378_2:=Aside0.mk hl378_2
         clear hi378_2 hl378_2
         replace p378:=eq_true p378
         replace q378:=eq_true q378
         have ea_:=Option.some.inj (hx376_2.symm.trans hx378_2)
         injection ea_ with ea_ en_ ec_
         subst ea_
         subst ec_
         clear en_
         have p379:0≤(x5_1:Int):=of_decide_eq_true asm
         have q379:x5_1<(l1.length:Int):=of_decide_eq_true asm
         obtain ⟨ad379,A379_2,c379_2,e379,hx379_0,hx379_1,hx379_2,hl379_2,hi379_2⟩:=at_T53 HR1.out x5_1 p379 q379
         obtain rfl:ad376=ad379:=(by injection e379)
         have HR379_2:=Aside0.mk hi379_2
         have HC379_2:=Aside0.mk hl379_2
         clear hi379_2 hl379_2
         replace p379:=eq_true p379
         replace q379:=eq_true q379
         have ea_:=Option.some.inj (hx376_2.symm.trans hx379_2)
         injection ea_ with ea_ en_ ec_
         subst ea_
         subst ec_
         clear en_
         have p380:0≤(x5_1:Int):=of_decide_eq_true asm
         have q380:x5_1<(l1.length:Int):=of_decide_eq_true asm
         obtain ⟨ad380,A380_2,c380_2,e380,hx380_0,hx380_1,hx380_2,hl380_2,hi380_2⟩:=at_T53 HR1.out x5_1 p380 q380
         obtain rfl:ad376=ad380:=(by injection e380)
         have HR380_2:=Aside0.mk hi380_2
         have HC380_2:=Aside0.mk hl380_2
         clear hi380_2 hl380_2
         replace p380:=eq_true p380
         replace q380:=eq_true q380
         have ea_:=Option.some.inj (hx376_2.symm.trans hx380_2)
         injection ea_ with ea_ en_ ec_
         subst ea_
         subst ec_
         clear en_
         go_wp2
         repeat (go_quiet (fail);try go_wp2)
         go_meet
         case rel=>exact ⟨_,(decide (((rd_T53 l1 x5_1).f1) > (wrap64 (a0 - ((rd_T53 l1 x5_1).f0))))),rx,H',⟨by have:=HK1.out;first|omega|exact Nat.le_refl _⟩,by repeat (first|exact Drawn0.refl _|apply Drawn0.step)⟩
     ·rw [if_neg c5] at H
      exact absurd H (by simp)
    case rest =>
     clear HC4
     try clear c1
     try clear p2
     try clear c3
     try clear c3b0
     try clear p3
     try clear q3
     try clear hx3
     try clear c5
     try clear c5b0
     try clear c6
     try clear c6b0
     try clear p6
     try clear c7
     try clear c7b0
     try clear c8
     try clear c8b0
     try clear hx376_0
     try clear hx376_1
     try clear hx376_2
     try clear hx377_0
     try clear hx377_1
     try clear hx377_2
     try clear hx378_0
     try clear hx378_1
     try clear hx378_2
     try clear hx379_0
     try clear hx379_1
     try clear hx379_2
     try clear hx380_0
     try clear hx380_1
     try clear hx380_2
     try clear p2
     try clear p376
     try clear p377
     try clear p378
     try clear p379
     try clear p380
     try clear q376
     try clear q377
     try clear q378
     try clear q379
     try clear q380
     obtain ⟨kq,x49_3,rfl,HA,HJ3,⟨mc3,rfl⟩⟩:=hcut
     cases kq with
     | zero=>exact absurd HA.out (by simp [r04_Right.j1])
     | succ kj3 =>
      have H:=HA.out
      clear HA
      simp only [r04_Right.j1] at H
      by_cases c9:x49_3=true
      ·subst c9
       have H1:(some false)=some r:=by rw [if_pos rfl] at H;exact H
       clear H
       have H:=H1
       clear H1
       obtain rfl:=Option.some.inj H
       go_wp2
       go_ret
       exact ⟨by first|rfl|(simp;done)|(simp [*];done),by repeat (first|exact Drawn0.refl _|apply Drawn0.step)⟩
      ·replace c9:=Bool.eq_false_iff.mpr c9
       subst c9
       have H1:(if 0≤x5_1 then (if x5_1<(l1.length:Int) then (if ((rd_T53 l1 x5_1).f1)=0 then (r04_Right.j2 kj3 a0 l1 x5_1 ((((rd_T53 l1 x5_1).f2).length:Int) == 0)) else (r04_Right.j2 kj3 a0 l1 x5_1 false)) else (none)) else (none))=some r:=by rw [if_neg (show ¬ (false=true) by decide)] at H;exact H
       clear H
       have H:=H1
       clear H1
       have HC10:=Aside0.mk H
       clear H
       go_upto_region 6 with (fail)
       go_cut [64] (fun v64 wc=>∃ (kq:Nat) (x64_9:Bool),v64=.bool x64_9∧Aside0 (r04_Right.j2 kq a0 l1 x5_1 x64_9=some r)∧Aside0 (kq≤kj3)∧Drawn0 w wc)
       case first =>
        have H:=HC10.out
        clear HC10
        by_cases c11:0≤x5_1
        ·rw [if_pos c11] at H
         have c11b0:decide (0≤x5_1)=true:=decide_eq_true c11
         clear c11
         (first|rw [c11b0]|(simp only [i64_w,i32_w];rw [c11b0])|skip)
         by_cases c12:x5_1<(l1.length:Int)
         ·rw [if_pos c12] at H
          have c12b0:decide (x5_1<(l1.length:Int))=true:=decide_eq_true c12
          clear c12
          by_cases c13:((rd_T53 l1 x5_1).f1)=0
          ·rw [if_pos c13] at H
           have c13b0:(((rd_T53 l1 x5_1).f1) == 0)=true:=beq_iff_eq.mpr c13
           have c13b1:(((rd_T53 l1 x5_1).f1) != 0)=false:=bne_eq_false_iff_eq.mpr c13
           clear c13
           have H':=Aside0.mk H
           clear H
           have p381:0≤(x5_1:Int):=of_decide_eq_true asm
           have q381:x5_1<(l1.length:Int):=of_decide_eq_true asm
           obtain ⟨ad381,A381_2,c381_2,e381,hx381_0,hx381_1,hx381_2,hl381_2,hi381_2⟩:=at_T53 HR1.out x5_1 p381 q381
           cases e381
           have HR381_2:=Aside0.mk hi381_2
           have HC381_2:=Aside0.mk hl381_2
           clear hi381_2 hl381_2
           replace p381:=eq_true p381
           replace q381:=eq_true q381
           have p382:0≤(x5_1:Int):=of_decide_eq_true asm
           have q382:x5_1<(l1.length:Int):=of_decide_eq_true asm
           obtain ⟨ad382,A382_2,c382_2,e382,hx382_0,hx382_1,hx382_2,hl382_2,hi382_2⟩:=at_T53 HR1.out x5_1 p382 q382
           obtain rfl:ad381=ad382:=(by injection e382)
           have HR382_2:=Aside0.mk hi382_2
           have HC382_2:=Aside0.mk hl382_2
           clear hi382_2 hl382_2
           replace p382:=eq_true p382
           replace q382:=eq_true q382
           have ea_:=Option.some.inj (hx381_2.symm.trans hx382_2)
           injection ea_ with ea_ en_ ec_
           subst ea_
           subst ec_
           clear en_
           go_wp2
           go_meet
           case rel=>exact ⟨_,(((((rd_T53 l1 x5_1).f2).length:Int) == 0)),rx,H',⟨by have:=HK1.out;have:=HJ3.out;first|omega|exact Nat.le_refl _⟩,by repeat (first|exact Drawn0.refl _|apply Drawn0.step)⟩
          ·rw [if_neg c13] at H
           have c13b0:(((rd_T53 l1 x5_1).f1) == 0)=false:=beq_eq_false_iff_ne.mpr c13
           have c13b1:(((rd_T53 l1 x5_1).f1) != 0)=true:=bne_iff_ne.mpr c13
           have H':=Aside0.mk H
           clear H
           have p381:0≤(x5_1:Int):=of_decide_eq_true asm
           have q381:x5_1<(l1.length:Int):=of_decide_eq_true asm
           obtain ⟨ad381,A381_2,c381_2,e381,hx381_0,hx381_1,hx381_2,hl381_2,hi381_2⟩:=at_T53 HR1.out x5_1 p381 q381
           cases e381
           have HR381_2:=Aside0.mk hi381_2
           have HC381_2:=Aside0.mk hl381_2
           clear hi381_2 hl381_2
           replace p381:=eq_true p381
           replace q381:=eq_true q381
           go_wp2
           go_meet
           case rel=>exact ⟨_,(false),rx,H',⟨by have:=HK1.out;have:=HJ3.out;first|omega|exact Nat.le_refl _⟩,by repeat (first|exact Drawn0.refl _|apply Drawn0.step)⟩
         ·rw [if_neg c12] at H
          exact absurd H (by simp)
        ·rw [if_neg c11] at H
         exact absurd H (by simp)
       case rest =>
        clear HC10
        try clear c1
        try clear p2
        try clear c3
        try clear c3b0
        try clear p3
        try clear q3
        try clear hx3
        try clear c5
        try clear c5b0
        try clear c6
        try clear c6b0
        try clear p6
        try clear c7
        try clear c7b0
        try clear c8
        try clear c8b0
        try clear c9
        try clear c11
        try clear c11b0
        try clear c12
        try clear c12b0
        try clear c13
        try clear c13b0
        try clear c13b1
        try clear hx376_0
        try clear hx376_1
        try clear hx376_2
        try clear hx377_0
        try clear hx377_1
        try clear hx377_2
        try clear hx378_0
        try clear hx378_1
        try clear hx378_2
        try clear hx379_0
        try clear hx379_1
        try clear hx379_2
        try clear hx380_0
        try clear hx380_1
        try clear hx380_2
        try clear hx381_0
        try clear hx381_1
        try clear hx381_2
        try clear hx382_0
        try clear hx382_1
        try clear hx382_2
        try clear p2
        try clear p3
        try clear p376
        try clear p377
        try clear p378
        try clear p379
        try clear p380
        try clear p381
        try clear p382
        try clear p6
        try clear q3
        try clear q376
        try clear q377
        try clear q378
        try clear q379
        try clear q380
        try clear q381
        try clear q382
        obtain ⟨kq,x64_9,rfl,HA,HJ9,⟨mc9,rfl⟩⟩:=hcut
        cases kq with
        | zero=>exact absurd HA.out (by simp [r04_Right.j2])
        | succ kj9 =>
         have H:=HA.out
         clear HA
         simp only [r04_Right.j2] at H
         by_cases c14:x64_9=true
         ·subst c14
          have H1:(some false)=some r:=by rw [if_pos rfl] at H;exact H
          clear H
          have H:=H1
          clear H1
          obtain rfl:=Option.some.inj H
          go_wp2
          go_ret
          exact ⟨by first|rfl|(simp;done)|(simp [*];done),by repeat (first|exact Drawn0.refl _|apply Drawn0.step)⟩
         ·replace c14:=Bool.eq_false_iff.mpr c14
          subst c14
          have H1:(if x5_1 > 0 then (if 0≤x5_1 then (if x5_1<(l1.length:Int) then (if 0≤(wrap64 (x5_1 - 1)) then (if (wrap64 (x5_1 - 1))<(l1.length:Int) then (if ((rd_T53 l1 x5_1).f0)≤(wrap64 (((rd_T53 l1 (wrap64 (x5_1 - 1))).f0)+((rd_T53 l1 (wrap64 (x5_1 - 1))).f1))) then (some false) else (r04_Right.l0 kj9 a0 l1 (wrap64 (x5_1+1)))) else (none)) else (none)) else (none)) else (none)) else (r04_Right.l0 kj9 a0 l1 (wrap64 (x5_1+1))))=some r:=by rw [if_neg (show ¬ (false=true) by decide)] at H;exact H
          clear H
          have H:=H1
          clear H1
          by_cases c15:x5_1 > 0
          ·rw [if_pos c15] at H
           have c15b0:decide (0<x5_1)=true:=decide_eq_true c15
           clear c15
           by_cases c16:0≤x5_1
           ·rw [if_pos c16] at H
            have c16b0:decide (0≤x5_1)=true:=decide_eq_true c16
            clear c16
            by_cases c17:x5_1<(l1.length:Int)
            ·rw [if_pos c17] at H
             have c17b0:decide (x5_1<(l1.length:Int))=true:=decide_eq_true c17
             clear c17
             obtain ⟨ji18,hji18⟩:∃ j_:Int,(wrap64 (x5_1 - 1))=j_:=⟨_,rfl⟩
             replace H:(if 0≤(ji18) then (if (ji18)<(l1.length:Int) then (if ((rd_T53 l1 x5_1).f0)≤(wrap64 (((rd_T53 l1 (ji18)).f0)+((rd_T53 l1 (ji18)).f1))) then (some false) else (r04_Right.l0 kj9 a0 l1 (wrap64 (x5_1+1)))) else (none)) else (none))=some r:=by first|(rw [hji18] at H;exact H)|(simp only [hji18] at H ⊢;exact H)
             have hji18w:(IntKind.i64.wrap (x5_1 - 1))=ji18:=(i64_w _).trans hji18
             by_cases c19:0≤(ji18)
             ·rw [if_pos c19] at H
              have c19b0:decide (0≤(ji18))=true:=decide_eq_true c19
              clear c19
              by_cases c20:(ji18)<(l1.length:Int)
              ·rw [if_pos c20] at H
               have c20b0:decide ((ji18)<(l1.length:Int))=true:=decide_eq_true c20
               clear c20
               by_cases c21:((rd_T53 l1 x5_1).f0)≤(wrap64 (((rd_T53 l1 (ji18)).f0)+((rd_T53 l1 (ji18)).f1)))
               ·rw [if_pos c21] at H
                have c21b0:decide (((rd_T53 l1 x5_1).f0)≤(wrap64 (((rd_T53 l1 (ji18)).f0)+((rd_T53 l1 (ji18)).f1))))=true:=decide_eq_true c21
                clear c21
                obtain rfl:=Option.some.inj H
                have p383:0≤(x5_1:Int):=of_decide_eq_true asm
                have q383:x5_1<(l1.length:Int):=of_decide_eq_true asm
                obtain ⟨ad383,A383_2,c383_2,e383,hx383_0,hx383_1,hx383_2,hl383_2,hi383_2⟩:=at_T53 HR1.out x5_1 p383 q383
                cases e383
                have HR383_2:=Aside0.mk hi383_2
                have HC383_2:=Aside0.mk hl383_2
                clear hi383_2 hl383_2
                replace p383:=eq_true p383
                replace q383:=eq_true q383
                have p384:0≤((ji18):Int):=of_decide_eq_true asm
                have q384:(ji18)<(l1.length:Int):=of_decide_eq_true asm
                obtain ⟨ad384,A384_2,c384_2,e384,hx384_0,hx384_1,hx384_2,hl384_2,hi384_2⟩:=at_T53 HR1.out (ji18) p384 q384
                obtain rfl:ad383=ad384:=(by injection e384)
                have HR384_2:=Aside0.mk hi384_2
                have HC384_2:=Aside0.mk hl384_2
                clear hi384_2 hl384_2
                replace p384:=eq_true p384
                replace q384:=eq_true q384
                have p385:0≤((ji18):Int):=of_decide_eq_true asm
                have q385:(ji18)<(l1.length:Int):=of_decide_eq_true asm
                obtain ⟨ad385,A385_2,c385_2,e385,hx385_0,hx385_1,hx385_2,hl385_2,hi385_2⟩:=at_T53 HR1.out (ji18) p385 q385
                obtain rfl:ad383=ad385:=(by injection e385)
                have HR385_2:=Aside0.mk hi385_2
                have HC385_2:=Aside0.mk hl385_2
                clear hi385_2 hl385_2
                replace p385:=eq_true p385
                replace q385:=eq_true q385
                have ea_:=Option.some.inj (hx384_2.symm.trans hx385_2)
                injection ea_ with ea_ en_ ec_
                subst ea_
                subst ec_
                clear en_
                go_wp2
                repeat (go_quiet (fail);try go_wp2)
                go_ret
                exact ⟨by first|rfl|(simp;done)|(simp only [← hji18]<;>(first|rfl|simp))|(simp [*];done),by repeat (first|exact Drawn0.refl _|apply Drawn0.step)⟩
               ·rw [if_neg c21] at H
                have c21b0:decide (((rd_T53 l1 x5_1).f0)≤(wrap64 (((rd_T53 l1 (ji18)).f0)+((rd_T53 l1 (ji18)).f1))))=false:=decide_eq_false c21
                clear c21
                have H':=Aside0.mk H
                clear H
                have p383:0≤(x5_1:Int):=of_decide_eq_true asm
                have q383:x5_1<(l1.length:Int):=of_decide_eq_true asm
                obtain ⟨ad383,A383_2,c383_2,e383,hx383_0,hx383_1,hx383_2,hl383_2,hi383_2⟩:=at_T53 HR1.out x5_1 p383 q383
                cases e383
                have HR383_2:=Aside0.mk hi383_2
                have HC383_2:=Aside0.mk hl383_2
                clear hi383_2 hl383_2
                replace p383:=eq_true p383
                replace q383:=eq_true q383
                have p384:0≤((ji18):Int):=of_decide_eq_true asm
                have q384:(ji18)<(l1.length:Int):=of_decide_eq_true asm
                obtain ⟨ad384,A384_2,c384_2,e384,hx384_0,hx384_1,hx384_2,hl384_2,hi384_2⟩:=at_T53 HR1.out (ji18) p384 q384
                obtain rfl:ad383=ad384:=(by injection e384)
                have HR384_2:=Aside0.mk hi384_2
                have HC384_2:=Aside0.mk hl384_2
                clear hi384_2 hl384_2
                replace p384:=eq_true p384
                replace q384:=eq_true q384
                have p385:0≤((ji18):Int):=of_decide_eq_true asm
                have q385:(ji18)<(l1.length:Int):=of_decide_eq_true asm
                obtain ⟨ad385,A385_2,c385_2,e385,hx385_0,hx385_1,hx385_2,hl385_2,hi385_2⟩:=at_T53 HR1.out (ji18) p385 q385
                obtain rfl:ad383=ad385:=(by injection e385)
                have HR385_2:=Aside0.mk hi385_2
                have HC385_2:=Aside0.mk hl385_2
                clear hi385_2 hl385_2
                replace p385:=eq_true p385
                replace q385:=eq_true q385
                have ea_:=Option.some.inj (hx384_2.symm.trans hx385_2)
                injection ea_ with ea_ en_ ec_
                subst ea_
                subst ec_
                clear en_
                go_wp2
                repeat (go_quiet (fail);try go_wp2)
                go_roundg kj9
                case measure=>have:=HK1.out;have:=HJ3.out;have:=HJ9.out;omega
                case rel=>exact ⟨(wrap64 (x5_1+1)),rx,H',⟨by have:=HK1.out;have:=HJ3.out;have:=HJ9.out;omega⟩,by repeat (first|exact Drawn0.refl _|apply Drawn0.step)⟩
              ·rw [if_neg c20] at H
               exact absurd H (by simp)
             ·rw [if_neg c19] at H
              exact absurd H (by simp)
            ·rw [if_neg c17] at H
             exact absurd H (by simp)
           ·rw [if_neg c16] at H
            exact absurd H (by simp)
          ·rw [if_neg c15] at H
           have c15b0:decide (0<x5_1)=false:=decide_eq_false c15
           clear c15
           have H':=Aside0.mk H
           clear H
           go_wp2
           repeat (go_quiet (fail);try go_wp2)
           go_roundg kj9
           case measure=>have:=HK1.out;have:=HJ3.out;have:=HJ9.out;omega
           case rel=>exact ⟨(wrap64 (x5_1+1)),rx,H',⟨by have:=HK1.out;have:=HJ3.out;have:=HJ9.out;omega⟩,by repeat (first|exact Drawn0.refl _|apply Drawn0.step)⟩
   ·rw [if_neg c3] at H
    have c3b0:decide (x5_1<(l1.length:Int))=false:=decide_eq_false c3
    clear c3
    obtain rfl:=Option.some.inj H
    go_wp2
    go_ret
    exact ⟨by first|rfl|(simp;done)|(simp [*];done),by repeat (first|exact Drawn0.refl _|apply Drawn0.step)⟩

end Go.Proofs.Ytoaijganmfijmaa.Pr
-- shrunk
/-
Whether edits are right, as the document has it, in plain Lean.
-/
namespace Go.Proofs.Ytoaijganmfijmaa.Pr
open Go.RowKit Go.Proofs.YtoaijganmfijmaaW.PrintWords Go.Proofs.YtoaijganmfijmaaW.PrintLast Go.Proofs.YtoaijganmfijmaaW.PrintMore
theorem w_pred {i:Nat} (h:0<i) (hn:i≤4611686018427387904):wrap64 ((i:Int) - 1)=((i - 1:Nat):Int):=by unfold wrap64;omega
theorem RRight_l0 (many:Int) (l:List Ed) (hm0:-4611686018427387904≤many) (hm:many≤4611686018427387904) (hn:l.length≤4611686018427387904):∀ (d i:Nat) (fr:Int),l.length - i=d→i≤l.length→0≤fr →
  (i=0∧fr=0∨∃ h:i - 1<l.length,0<i∧fr=l[i - 1].f0+l[i - 1].f1+1∧fr≤4611686018427387905) →
  Ev (fun k=>r04_Right.l0 k many l (i:Int)) (okFrom fr many (l.drop i)):=by
 intro d
 induction d with
 | zero =>
  intro i fr hd hi hf hp
  refine Ev.step (fun _=>r04_Right.l0.eq_2 ..) ?_
  simp only [if_neg (show ¬ (i:Int)<(l.length:Int) by omega)]
  rw [List.drop_of_length_le (by omega)]
  exact Ev.now _
 | succ d ih =>
  intro i fr hd hi hf hp
  refine Ev.step (fun _=>r04_Right.l0.eq_2 ..) ?_
  have h0:i<l.length:=by omega
  rw [List.drop_eq_getElem_cons h0]
  have hlen:(l[i].f2.length:Int)=0 ↔ l[i].f2=[]:=by
   rw [show ((l[i].f2.length:Int)=0)=(l[i].f2.length=0) from propext (by omega),List.length_eq_zero_iff]
  have j1t:Ev (fun k=>r04_Right.j1 k many l (i:Int) true) false:=by
   refine Ev.step (fun _=>r04_Right.j1.eq_2 ..) ?_
   exact Ev.now _
  have j2t:Ev (fun k=>r04_Right.j2 k many l (i:Int) true) false:=by
   refine Ev.step (fun _=>r04_Right.j2.eq_2 ..) ?_
   exact Ev.now _
  simp only [okFrom,if_pos (show (i:Int)<(l.length:Int) by omega),if_pos (show 0≤(i:Int) by omega),rdE_at h0]
  by_cases c1:l[i].f0<0
  ·simp only [if_pos c1]
   rw [decide_eq_false (by omega)]
   exact j1t
  simp only [if_neg c1]
  by_cases c2:l[i].f1<0
  ·simp only [if_pos c2]
   rw [decide_eq_false (by omega)]
   exact j1t
  simp only [if_neg c2]
  by_cases c3:l[i].f0 > many
  ·simp only [if_pos c3]
   rw [decide_eq_false (by omega)]
   exact j1t
  simp only [if_neg c3,w_in (show -9223372036854775808≤many - l[i].f0 by omega) (show many - l[i].f0≤9223372036854775807 by omega)]
  by_cases c4:l[i].f1 > many - l[i].f0
  ·rw [decide_eq_true c4,decide_eq_false (by omega)]
   exact j1t
  rw [decide_eq_false c4]
  refine Ev.step (fun _=>r04_Right.j1.eq_2 ..) ?_
  simp only [Bool.false_eq_true,if_false,if_pos (show (i:Int)<(l.length:Int) by omega),if_pos (show 0≤(i:Int) by omega),rdE_at h0]
  have h:=ih (i+1) (l[i].f0+l[i].f1+1) (by clear hp;omega) (by clear hp;omega) (by clear hp;omega) (.inr ⟨by clear hp;omega,by clear hp;omega,by simp,by clear hp;omega⟩)
  have j2f:¬ (l[i].f1=0∧l[i].f2=[])→Ev (fun k=>r04_Right.j2 k many l (i:Int) false) (decide (fr≤l[i].f0∧0≤l[i].f1∧l[i].f0≤many∧l[i].f1≤many - l[i].f0∧¬ (l[i].f1=0∧l[i].f2=[])) && okFrom (l[i].f0+l[i].f1+1) many (l.drop (i+1))):=fun hne=>by
   refine Ev.step (fun _=>r04_Right.j2.eq_2 ..) ?_
   simp only [Bool.false_eq_true,if_false]
   rcases hp with ⟨rfl,rfl⟩|⟨hi1,hpos,hfr,hle⟩
   ·simp only [if_neg (show ¬ ((0:Nat):Int) > 0 by omega),w_succ h0 hn]
    rw [decide_eq_true ⟨by omega,by omega,by omega,by omega,hne⟩,Bool.true_and]
    exact h
   have hw1:wrap64 ((i:Int) - 1)=((i - 1:Nat):Int):=w_pred hpos (Nat.le_trans hi hn)
   have hw2:wrap64 (l[i - 1].f0+l[i - 1].f1)=l[i - 1].f0+l[i - 1].f1:=w_in (by omega) (by omega)
   simp only [if_pos (show (i:Int) > 0 by omega),if_pos (show (i:Int)<(l.length:Int) by omega),if_pos (show 0≤(i:Int) by omega),hw1,if_pos (show 0≤((i - 1:Nat):Int) by omega),if_pos (show ((i - 1:Nat):Int)<(l.length:Int) by omega),rdE_at h0,rdE_at hi1,hw2,w_succ h0 hn]
   by_cases c5:l[i].f0≤l[i - 1].f0+l[i - 1].f1
   ·simp only [if_pos c5]
    rw [decide_eq_false (by omega)]
    exact Ev.now _
   simp only [if_neg c5]
   rw [decide_eq_true ⟨by omega,by omega,by omega,by omega,hne⟩,Bool.true_and]
   exact h
  by_cases c6:l[i].f1=0
  rotate_left
  ·simp only [if_neg c6]
   exact j2f (fun h=>c6 h.1)
  simp only [if_pos c6]
  by_cases c7:l[i].f2=[]
  ·rw [show ((l[i].f2.length:Int) == 0)=true from beq_iff_eq.2 (hlen.2 c7),decide_eq_false (by simp [c6,c7])]
   exact j2t
  rw [show ((l[i].f2.length:Int) == 0)=false from beq_eq_false_iff_ne.2 (fun h=>c7 (hlen.1 h))]
  exact j2f (fun h=>c7 h.2)
theorem RRight_ev (many:Int) (l:List Ed) (hm0:-4611686018427387904≤many) (hm:many≤4611686018427387904) (hn:l.length≤4611686018427387904):Ev (fun k=>r04_Right.f k many l) (okFrom 0 many l):=by
 have h:=RRight_l0 many l hm0 hm hn _ 0 0 rfl (by omega) (by omega) (.inl ⟨rfl,rfl⟩)
 simpa [r04_Right.f] using h
end Go.Proofs.Ytoaijganmfijmaa.Pr
-- shrunk
