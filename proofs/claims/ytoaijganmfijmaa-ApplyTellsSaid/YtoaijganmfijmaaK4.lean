/-
Several plain texts in one.
-/
import Derived.Test.YtoaijganmfijmaaK2
import Derived.Test.YtoaijganmfijmaaK3
import Derived.Test.YtoaijganmfijmaaD11
import Derived.Test.YtoaijganmfijmaaK0
set_option linter.unusedVariables false
set_option linter.unusedSimpArgs false
/-
What the document's Many, Right, Turn and Edits of a hunk compute, as plain Lean: of lines that are right they are those of package hunk.
-/
namespace Go.Proofs.Ytoaijganmfijmaa.Pr
open Go.RowKit Go.Proofs.YtoaijganmfijmaaW.PrintWords Go.Proofs.YtoaijganmfijmaaW.PrintLast Go.Proofs.YtoaijganmfijmaaW.PrintMore
theorem RHRight_l0 (l:List ByteArray) (A An B Bn:Int) (hn:l.length≤1099511627776):∀ (d i:Nat) (came:Bool),l.length - i=d→i≤l.length→(∀ j (hj:j<l.length),j<i→0<l[j].size)→(∀ (h:i - 1<l.length),0<i→(came=decide (bt l[i - 1] 0=43)))→(i=0→came=false) →
  Ev (fun k=>r05_Right.l0 k (i:Int) A An B Bn l) (decide (okL came (l.drop i)=true∧0≤A∧0≤B∧An=manyL 45 l∧Bn=manyL 43 l)):=by
 intro d
 induction d with
 | zero =>
  intro i came hd hi hs hc hc0
  refine Ev.step (fun _=>r05_Right.l0.eq_2 ..) ?_
  simp only [if_neg (show ¬ (i:Int)<(l.length:Int) by omega)]
  rw [List.drop_of_length_le (by omega)]
  by_cases hA:A ≥ 0
  rotate_left
  ·simp only [if_neg hA]
   rw [decide_eq_false (fun h=>hA h.2.1)];exact Ev.now _
  simp only [if_pos hA]
  by_cases hB:B ≥ 0
  rotate_left
  ·simp only [if_neg hB]
   rw [decide_eq_false (fun h=>hB h.2.2.1)];exact Ev.now _
  simp only [if_pos hB]
  refine Ev.bind (Many_ev l 45 hn) ?_
  by_cases hAn:An=manyL 45 l
  rotate_left
  ·simp only [if_neg hAn]
   rw [decide_eq_false (fun h=>hAn h.2.2.2.1)];exact Ev.now _
  simp only [if_pos hAn]
  refine Ev.bind (Many_ev l 43 hn) ?_
  have e:(Bn == (manyL 43 l:Int))=decide (okL came []=true∧0≤A∧0≤B∧An=manyL 45 l∧Bn=manyL 43 l):=by
   rw [Bool.eq_iff_iff,beq_iff_eq,decide_eq_true_iff]
   exact ⟨fun h=>⟨rfl,hA,hB,hAn,h⟩,fun h=>h.2.2.2.2⟩
  rw [e]
  exact Ev.now _
 | succ d ih =>
  intro i came hd hi hs hc hc0
  refine Ev.step (fun _=>r05_Right.l0.eq_2 ..) ?_
  have h0:i<l.length:=by omega
  rw [List.drop_eq_getElem_cons h0]
  simp only [if_pos (show (i:Int)<(l.length:Int) by omega),if_pos (show 0≤(i:Int) by omega),rdS_at h0]
  by_cases hz:(l[i].size:Int)=0
  ·simp only [if_pos hz]
   rw [okD (fun h=>by have:=h.1;omega)]
   exact Ev.now _
  simp only [if_neg hz,if_pos (show (0:Int)<(l[i].size:Int) by omega)]
  have hp:0<l[i].size:=by omega
  have key:∀ bad:Bool,(bad=true ↔ ¬ (bt l[i] 0=32∨bt l[i] 0=43∨bt l[i] 0=45))→Ev (fun k=>r05_Right.j1 k (i:Int) l[i] bad A An B Bn l)
    (decide (okL came (l[i] :: l.drop (i+1))=true∧0≤A∧0≤B∧An=manyL 45 l∧Bn=manyL 43 l)):=by
   intro bad hbad
   refine Ev.step (fun _=>r05_Right.j1.eq_2 ..) ?_
   by_cases hb:bad=true
   ·simp only [if_pos hb]
    rw [okD (fun h=>hbad.1 hb h.2.1)]
    exact Ev.now _
   have hsign:bt l[i] 0=32∨bt l[i] 0=43∨bt l[i] 0=45:=Classical.byContradiction fun h=>hb (hbad.2 h)
   simp only [if_neg hb,w_succ h0 (show l.length≤4611686018427387904 by omega)]
   have hnext:¬ (bt l[i] 0=45∧came=true)→Ev (fun k=>r05_Right.l0 k ((i+1:Nat):Int) A An B Bn l)
     (decide (okL came (l[i] :: l.drop (i+1))=true∧0≤A∧0≤B∧An=manyL 45 l∧Bn=manyL 43 l)):=by
    intro hcm
    rw [okL_true ⟨hp,hsign,hcm⟩]
    exact ih (i+1) (decide (bt l[i] 0=43)) (by omega) (by omega) (fun j hj hji=>by
     by_cases hji2:j=i
     ·subst hji2;exact hp
     ·exact hs j hj (by omega)) (fun h _=>by simp only [Nat.add_sub_cancel]) (by omega)
   by_cases hi0:(i:Int) > 0
   ·have hq:i - 1<l.length:=by omega
    have wq:wrap64 ((i:Int) - 1)=((i - 1:Nat):Int):=by rw [w_in (by omega) (by omega)];omega
    have hcm:=hc hq (by omega)
    simp only [if_pos hi0,if_pos (show (0:Int)<(l[i].size:Int) by omega)]
    by_cases b45:bt l[i] 0=45
    ·have hpq:=hs (i - 1) hq (by omega)
     simp only [if_pos b45,wq,if_pos (show (0:Int)≤((i - 1:Nat):Int) by omega),if_pos (show ((i - 1:Nat):Int)<(l.length:Int) by omega),rdS_at hq,if_pos (show (0:Int)<(l[i - 1].size:Int) by omega)]
     by_cases b43:bt l[i - 1] 0=43
     ·simp only [if_pos b43]
      rw [okD (fun h=>h.2.2 ⟨b45,by rw [hcm];exact decide_eq_true b43⟩)]
      exact Ev.now _
     ·simp only [if_neg b43]
      exact hnext (fun h=>b43 (of_decide_eq_true (hcm ▸ h.2)))
    ·simp only [if_neg b45]
     exact hnext (fun h=>b45 h.1)
   ·simp only [if_neg hi0]
    have:=hc0 (by omega)
    exact hnext (fun h=>by rw [this] at h;exact absurd h.2 (by simp))
  by_cases b32:bt l[i] 0=32
  ·simp only [if_pos b32]
   exact key false ⟨fun h=>absurd h (by simp),fun h=>absurd (Or.inl b32) h⟩
  simp only [if_neg b32]
  by_cases b43:bt l[i] 0=43
  ·simp only [if_pos b43]
   exact key false ⟨fun h=>absurd h (by simp),fun h=>absurd (Or.inr (Or.inl b43)) h⟩
  simp only [if_neg b43]
  refine key _ ⟨fun h=>?_,fun h=>?_⟩
  rotate_left
  ·rw [bne_iff_ne]
   exact fun h1=>h (Or.inr (Or.inr h1))
  rw [bne_iff_ne] at h
  rintro (h1|h1|h1)
  ·exact b32 h1
  ·exact b43 h1
  exact h h1
theorem RHRight_ev (A An B Bn:Int) (l:List ByteArray) (hn:l.length≤1099511627776):Ev (fun k=>r05_Right.f k A An B Bn l) (rightL A An B Bn l):=by
 unfold r05_Right.f
 have h:=RHRight_l0 l A An B Bn hn _ 0 false rfl (by omega) (fun j hj h=>by omega) (fun h h0=>by omega) (fun _=>rfl)
 exact h
end Go.Proofs.Ytoaijganmfijmaa.Pr
-- shrunk
-- written by a program of this session's (a turned copy of the kit's printer); Lean checks it
namespace Go.Proofs.Ytoaijganmfijmaa.Pr
open Go.RowKit Go.Proofs.YtoaijganmfijmaaW.PrintWords Go.Proofs.YtoaijganmfijmaaW.PrintLast Go.Proofs.YtoaijganmfijmaaW.PrintMore
attribute [local go_sem] max2_int min2_int max_two min_two max_three min_three max_four min_four   -- for this text's walks alone

mutual
def r07_Right.l0:Nat→List (S41)→Int→Option (Bool)
 | 0,_,_=>none
 | k+1,x0,x3=>if x3<(x0.length:Int) then (if 0≤x3 then ((r05_Right.f k ((rd_T41 x0 x3).f0) ((rd_T41 x0 x3).f1) ((rd_T41 x0 x3).f2) ((rd_T41 x0 x3).f3) ((rd_T41 x0 x3).f4)).bind fun t296=>(if t296=true then (r07_Right.l1 k x0 x3 ((rd_T41 x0 x3).f0) 0) else (some false))) else (none)) else (some true)
def r07_Right.l1:Nat→List (S41)→Int→Int→Int→Option (Bool)
 | 0,_,_,_,_=>none
 | k+1,x0,x3,x5,x6=>if x6<x3 then (if 0≤x6 then (if x6<(x0.length:Int) then (r07_Right.l1 k x0 x3 (wrap64 ((wrap64 (x5+((rd_T41 x0 x6).f3))) - ((rd_T41 x0 x6).f1))) (wrap64 (x6+1))) else (none)) else (none)) else (if 0≤x3 then (if x3<(x0.length:Int) then (if ((rd_T41 x0 x3).f2)=x5 then (if x3 > 0 then (if 0≤(wrap64 (x3 - 1)) then (if (wrap64 (x3 - 1))<(x0.length:Int) then (if ((rd_T41 x0 x3).f0)<(wrap64 (((rd_T41 x0 (wrap64 (x3 - 1))).f0)+((rd_T41 x0 (wrap64 (x3 - 1))).f1))) then (some false) else (r07_Right.l0 k x0 (wrap64 (x3+1)))) else (none)) else (none)) else (r07_Right.l0 k x0 (wrap64 (x3+1)))) else (some false)) else (none)) else (none))
end
def r07_Right.f (k:Nat) (l0:List (S41)):Option (Bool):=r07_Right.l0 k l0 0
theorem r07_Right.mono_l:∀ k,(∀ y0 y1,LeO (r07_Right.l0 k y0 y1) (r07_Right.l0 (k+1) y0 y1))∧(∀ y0 y1 y2 y3,LeO (r07_Right.l1 k y0 y1 y2 y3) (r07_Right.l1 (k+1) y0 y1 y2 y3))
 | 0=>⟨fun _ _ r h=>by simp [r07_Right.l0] at h,fun _ _ _ _ r h=>by simp [r07_Right.l1] at h⟩
 | k+1=>by
  obtain ⟨ih0,ih1⟩:=r07_Right.mono_l k
  refine ⟨?_,?_⟩
  ·intro y0 y1
   unfold r07_Right.l0
   repeat' first
   | (with_reducible exact ih0 _ _)
   | (with_reducible exact ih1 _ _ _ _)
   | (with_reducible exact r05_Right.mono _ _ _ _ _ _)
   | (with_reducible exact LeO.refl _)
   | (with_reducible exact LeO.none _)
   | (with_reducible refine LeO.ite ?_ ?_)
   | (with_reducible refine LeO.bind ?_ (fun _=>?_))
   | exact ih0 _ _
   | exact ih1 _ _ _ _
   | exact r05_Right.mono _ _ _ _ _ _
   | exact LeO.none _
   | refine LeO.ite ?_ ?_
   | refine LeO.bind ?_ (fun _=>?_)
  ·intro y0 y1 y2 y3
   unfold r07_Right.l1
   repeat' first
   | (with_reducible exact ih0 _ _)
   | (with_reducible exact ih1 _ _ _ _)
   | (with_reducible exact r05_Right.mono _ _ _ _ _ _)
   | (with_reducible exact LeO.refl _)
   | (with_reducible exact LeO.none _)
   | (with_reducible refine LeO.ite ?_ ?_)
   | (with_reducible refine LeO.bind ?_ (fun _=>?_))
   | exact ih0 _ _
   | exact ih1 _ _ _ _
   | exact r05_Right.mono _ _ _ _ _ _
   | exact LeO.none _
   | refine LeO.ite ?_ ?_
   | refine LeO.bind ?_ (fun _=>?_)
theorem r07_Right.mono:∀ a0 k,LeO (r07_Right.f k a0) (r07_Right.f (k+1) a0):=by
 intro a0 k
 obtain ⟨ih0,ih1⟩:=r07_Right.mono_l k
 unfold r07_Right.f
 repeat' first
   | (with_reducible exact ih0 _ _)
   | (with_reducible exact ih1 _ _ _ _)
   | (with_reducible exact r05_Right.mono _ _ _ _ _ _)
   | (with_reducible exact LeO.refl _)
   | (with_reducible exact LeO.none _)
   | (with_reducible refine LeO.ite ?_ ?_)
   | (with_reducible refine LeO.bind ?_ (fun _=>?_))
   | exact ih0 _ _
   | exact ih1 _ _ _ _
   | exact r05_Right.mono _ _ _ _ _ _
   | exact LeO.none _
   | refine LeO.ite ?_ ?_
   | refine LeO.bind ?_ (fun _=>?_)
set_option maxHeartbeats 8000000 in
set_option maxRecDepth 100000 in
theorem r07_Right.calls (k:Nat) (A0:Option Addr) (c0:Nat) (l0:List (S41)) (r:Bool) (w:World) (hr0:Kd.C k41 w A0 l0.length l0) (hc0:l0.length≤c0) (h:r07_Right.f k l0=some r) :
  Calls Try.prog 16 #[.slice A0 l0.length c0] w fun e w'=>e=.returned (.bool r)∧Below w.heap.size w w':=by
 have hu41:=Try.underlying41
 have HR0:=Aside0.mk hr0
 have HC0:=Aside0.mk hc0
 clear hr0 hc0
 have HB:=Aside0.mk (Below.refl w.heap.size w)
 have H:(r07_Right.l0 k l0 0)=some r:=h
 clear h
 have H':=Aside0.mk H
 clear H
 go_enter Try.func16,Try.ntmps16
 go_wp2
 go_loopg [3] k (fun kq v3 w'=>∃ (x3_1:Int),v3=.int .i64 x3_1∧Aside0 (r07_Right.l0 kq l0 x3_1=some r)∧Aside0 (kq≤k)∧Aside0 (Below w.heap.size w w'))
 case atStart=>exact ⟨(0),rx,H',⟨Nat.le_refl _⟩,⟨by repeat (first|(with_reducible first|exact HB.out|apply below_alloc|apply pw_below_drewN|apply below_drew1)|exact HB.out)⟩⟩
 case round =>
  clear H'
  try clear c1
  obtain ⟨x3_1,rfl,HA,HK1,HB⟩:=hrel
  cases gk with
  | zero=>exact absurd HA.out (by simp [r07_Right.l0])
  | succ k1 =>
   have H:=HA.out
   clear HA
   simp only [r07_Right.l0] at H
   by_cases c2:x3_1<(l0.length:Int)
   ·rw [if_pos c2] at H
    have c2b0:decide (x3_1<(l0.length:Int))=true:=decide_eq_true c2
    clear c2
    by_cases c3:0≤x3_1
    ·rw [if_pos c3] at H
     have c3b0:decide (0≤x3_1)=true:=decide_eq_true c3
     clear c3
     replace H:=Option.bind_eq_some_iff.mp H
     obtain ⟨t296,A40,H⟩:=H
     replace H:(if t296=true then (r07_Right.l1 k1 l0 x3_1 ((rd_T41 l0 x3_1).f0) 0) else (some false))=some r:=H
     have A4:=Aside0.mk A40
     clear A40
     by_cases c5:t296=true
     ·subst c5
      have H1:(r07_Right.l1 k1 l0 x3_1 ((rd_T41 l0 x3_1).f0) 0)=some r:=by rw [if_pos rfl] at H;exact H
      clear H
      have H:=H1
      clear H1
      have H':=Aside0.mk H
      clear H
      have p295:0≤(x3_1:Int):=of_decide_eq_true asm
      have q295:x3_1<(l0.length:Int):=of_decide_eq_true asm
      obtain ⟨ad295,A295_4,c295_4,e295,hx295_0,hx295_1,hx295_2,hx295_3,hx295_4,hl295_4,hi295_4⟩:=at_T41 HR0.out x3_1 p295 q295
      cases e295
      replace hx295_0:=pw_cell_below HB.out hx295_0
      replace hx295_1:=pw_cell_below HB.out hx295_1
      replace hx295_2:=pw_cell_below HB.out hx295_2
      replace hx295_3:=pw_cell_below HB.out hx295_3
      replace hx295_4:=pw_cell_below HB.out hx295_4
      have HR295_4:=Aside0.mk hi295_4
      have HC295_4:=Aside0.mk hl295_4
      clear hi295_4 hl295_4
      replace p295:=eq_true p295
      replace q295:=eq_true q295
      go_wp2_with ((go_at_call 25;(with_reducible refine (r05_Right.calls k1 ((rd_T41 l0 x3_1).f0) ((rd_T41 l0 x3_1).f1) ((rd_T41 l0 x3_1).f2) ((rd_T41 l0 x3_1).f3) _ _ ((rd_T41 l0 x3_1).f4) true _ ?side1 ?side2 A4.out).mono ?_);(case side1=>repeat (first|exact (Kd.C_below HR295_4.out HB.out)|(with_reducible refine Kd.C_alloc ?_ _)|(with_reducible refine Kd.C_drewN ?_ _)|(with_reducible refine Kd.C_drew ?_)));(case side2=>exact HC295_4.out);rintro e w6 ⟨rfl,hb⟩;have n0_:=Aside0.mk (below_step bel hb);clear HB;have HB:=n0_;clear n0_;(try clear hb);(try clear hb2);(try clear hk);(try clear hi);have p297:0≤(x3_1:Int):=of_decide_eq_true asm;have q297:x3_1<(l0.length:Int):=of_decide_eq_true asm;obtain ⟨ad297,A297_4,c297_4,e297,hx297_0,hx297_1,hx297_2,hx297_3,hx297_4,hl297_4,hi297_4⟩:=at_T41 HR0.out x3_1 p297 q297;obtain rfl:ad295=ad297:=(by injection e297);replace hx297_0:=pw_cell_below HB.out hx297_0;replace hx297_1:=pw_cell_below HB.out hx297_1;replace hx297_2:=pw_cell_below HB.out hx297_2;replace hx297_3:=pw_cell_below HB.out hx297_3;replace hx297_4:=pw_cell_below HB.out hx297_4;have HR297_4:=Aside0.mk hi297_4;have HC297_4:=Aside0.mk hl297_4;clear hi297_4 hl297_4;replace p297:=eq_true p297;replace q297:=eq_true q297))
      go_loopg [5,6] k1 (fun kq v5 v6 w'=>∃ (x5_2:Int) (x6_2:Int),v5=.int .i64 x5_2∧v6=.int .i64 x6_2∧Aside0 (r07_Right.l1 kq l0 x3_1 x5_2 x6_2=some r)∧Aside0 (kq≤k1)∧Aside0 (Below w.heap.size w w'))
      case atStart=>exact ⟨((rd_T41 l0 x3_1).f0),(0),rx,rx,H',⟨Nat.le_refl _⟩,⟨by repeat (first|(with_reducible first|exact HB.out|apply below_alloc|apply pw_below_drewN|apply below_drew1)|exact HB.out)⟩⟩
      case round =>
       clear H'
       try clear c1
       try clear c2
       try clear c2b0
       try clear p2
       try clear q2
       try clear hx2
       try clear c3
       try clear c3b0
       try clear c5
       try clear hx295_0
       try clear hx295_1
       try clear hx295_2
       try clear hx295_3
       try clear hx295_4
       try clear hx297_0
       try clear hx297_1
       try clear hx297_2
       try clear hx297_3
       try clear hx297_4
       try clear p295
       try clear p297
       try clear q295
       try clear q297
       obtain ⟨x5_2,x6_2,rfl,rfl,HA,HK2,HB⟩:=hrel
       cases gk with
       | zero=>exact absurd HA.out (by simp [r07_Right.l1])
       | succ k2 =>
        have H:=HA.out
        clear HA
        simp only [r07_Right.l1] at H
        by_cases c7:x6_2<x3_1
        ·rw [if_pos c7] at H
         have c7b0:decide (x6_2<x3_1)=true:=decide_eq_true c7
         clear c7
         by_cases c8:0≤x6_2
         ·rw [if_pos c8] at H
          have c8b0:decide (0≤x6_2)=true:=decide_eq_true c8
          clear c8
          by_cases c9:x6_2<(l0.length:Int)
          ·rw [if_pos c9] at H
           have c9b0:decide (x6_2<(l0.length:Int))=true:=decide_eq_true c9
           clear c9
           have H':=Aside0.mk H
           clear H
           have p298:0≤(x6_2:Int):=of_decide_eq_true asm
           have q298:x6_2<(l0.length:Int):=of_decide_eq_true asm
           obtain ⟨ad298,A298_4,c298_4,e298,hx298_0,hx298_1,hx298_2,hx298_3,hx298_4,hl298_4,hi298_4⟩:=at_T41 HR0.out x6_2 p298 q298
           obtain rfl:ad295=ad298:=(by injection e298)
           replace hx298_0:=pw_cell_below HB.out hx298_0
           replace hx298_1:=pw_cell_below HB.out hx298_1
           replace hx298_2:=pw_cell_below HB.out hx298_2
           replace hx298_3:=pw_cell_below HB.out hx298_3
           replace hx298_4:=pw_cell_below HB.out hx298_4
           have HR298_4:=Aside0.mk hi298_4
           have HC298_4:=Aside0.mk hl298_4
           clear hi298_4 hl298_4
           replace p298:=eq_true p298
           replace q298:=eq_true q298
           have p299:0≤(x6_2:Int):=of_decide_eq_true asm
           have q299:x6_2<(l0.length:Int):=of_decide_eq_true asm
           obtain ⟨ad299,A299_4,c299_4,e299,hx299_0,hx299_1,hx299_2,hx299_3,hx299_4,hl299_4,hi299_4⟩:=at_T41 HR0.out x6_2 p299 q299
           obtain rfl:ad295=ad299:=(by injection e299)
           replace hx299_0:=pw_cell_below HB.out hx299_0
           replace hx299_1:=pw_cell_below HB.out hx299_1
           replace hx299_2:=pw_cell_below HB.out hx299_2
           replace hx299_3:=pw_cell_below HB.out hx299_3
           replace hx299_4:=pw_cell_below HB.out hx299_4
           have HR299_4:=Aside0.mk hi299_4
           have HC299_4:=Aside0.mk hl299_4
           clear hi299_4 hl299_4
           replace p299:=eq_true p299
           replace q299:=eq_true q299
           have ea_:=Option.some.inj (hx298_4.symm.trans hx299_4)
           injection ea_ with ea_ en_ ec_
           subst ea_
           subst ec_
           clear en_
           go_wp2
           repeat (go_quiet (fail);try go_wp2)
           go_roundg k2
           case measure=>have:=HK1.out;have:=HK2.out;omega
           case rel=>exact ⟨(wrap64 ((wrap64 (x5_2+((rd_T41 l0 x6_2).f3))) - ((rd_T41 l0 x6_2).f1))),(wrap64 (x6_2+1)),rx,rx,H',⟨by have:=HK1.out;have:=HK2.out;omega⟩,⟨by repeat (first|(with_reducible first|exact HB.out|apply below_alloc|apply pw_below_drewN|apply below_drew1)|exact HB.out)⟩⟩
          ·rw [if_neg c9] at H
           exact absurd H (by simp)
         ·rw [if_neg c8] at H
          exact absurd H (by simp)
        ·rw [if_neg c7] at H
         have c7b0:decide (x6_2<x3_1)=false:=decide_eq_false c7
         clear c7
         by_cases c10:0≤x3_1
         ·rw [if_pos c10] at H
          have c10b0:decide (0≤x3_1)=true:=decide_eq_true c10
          clear c10
          by_cases c11:x3_1<(l0.length:Int)
          ·rw [if_pos c11] at H
           have c11b0:decide (x3_1<(l0.length:Int))=true:=decide_eq_true c11
           clear c11
           by_cases c12:((rd_T41 l0 x3_1).f2)=x5_2
           ·rw [if_pos c12] at H
            have c12b0:(((rd_T41 l0 x3_1).f2) == x5_2)=true:=beq_iff_eq.mpr c12
            have c12b1:(((rd_T41 l0 x3_1).f2) != x5_2)=false:=bne_eq_false_iff_eq.mpr c12
            clear c12
            by_cases c13:x3_1 > 0
            ·rw [if_pos c13] at H
             have c13b0:decide (0<x3_1)=true:=decide_eq_true c13
             clear c13
             obtain ⟨ji14,hji14⟩:∃ j_:Int,(wrap64 (x3_1 - 1))=j_:=⟨_,rfl⟩
             replace H:(if 0≤(ji14) then (if (ji14)<(l0.length:Int) then (if ((rd_T41 l0 x3_1).f0)<(wrap64 (((rd_T41 l0 (ji14)).f0)+((rd_T41 l0 (ji14)).f1))) then (some false) else (r07_Right.l0 k2 l0 (wrap64 (x3_1+1)))) else (none)) else (none))=some r:=by first|(rw [hji14] at H;exact H)|(simp only [hji14] at H ⊢;exact H)
             have hji14w:(IntKind.i64.wrap (x3_1 - 1))=ji14:=(i64_w _).trans hji14
             by_cases c15:0≤(ji14)
             ·rw [if_pos c15] at H
              have c15b0:decide (0≤(ji14))=true:=decide_eq_true c15
              clear c15
              by_cases c16:(ji14)<(l0.length:Int)
              ·rw [if_pos c16] at H
               have c16b0:decide ((ji14)<(l0.length:Int))=true:=decide_eq_true c16
               clear c16
               by_cases c17:((rd_T41 l0 x3_1).f0)<(wrap64 (((rd_T41 l0 (ji14)).f0)+((rd_T41 l0 (ji14)).f1)))
               ·rw [if_pos c17] at H
                have c17b0:decide (((rd_T41 l0 x3_1).f0)<(wrap64 (((rd_T41 l0 (ji14)).f0)+((rd_T41 l0 (ji14)).f1))))=true:=decide_eq_true c17
                clear c17
                obtain rfl:=Option.some.inj H
                have p300:0≤(x3_1:Int):=of_decide_eq_true asm
                have q300:x3_1<(l0.length:Int):=of_decide_eq_true asm
                obtain ⟨ad300,A300_4,c300_4,e300,hx300_0,hx300_1,hx300_2,hx300_3,hx300_4,hl300_4,hi300_4⟩:=at_T41 HR0.out x3_1 p300 q300
                obtain rfl:ad295=ad300:=(by injection e300)
                replace hx300_0:=pw_cell_below HB.out hx300_0
                replace hx300_1:=pw_cell_below HB.out hx300_1
                replace hx300_2:=pw_cell_below HB.out hx300_2
                replace hx300_3:=pw_cell_below HB.out hx300_3
                replace hx300_4:=pw_cell_below HB.out hx300_4
                have HR300_4:=Aside0.mk hi300_4
                have HC300_4:=Aside0.mk hl300_4
                clear hi300_4 hl300_4
                replace p300:=eq_true p300
                replace q300:=eq_true q300
                have p301:0≤(x3_1:Int):=of_decide_eq_true asm
                have q301:x3_1<(l0.length:Int):=of_decide_eq_true asm
                obtain ⟨ad301,A301_4,c301_4,e301,hx301_0,hx301_1,hx301_2,hx301_3,hx301_4,hl301_4,hi301_4⟩:=at_T41 HR0.out x3_1 p301 q301
                obtain rfl:ad295=ad301:=(by injection e301)
                replace hx301_0:=pw_cell_below HB.out hx301_0
                replace hx301_1:=pw_cell_below HB.out hx301_1
                replace hx301_2:=pw_cell_below HB.out hx301_2
                replace hx301_3:=pw_cell_below HB.out hx301_3
                replace hx301_4:=pw_cell_below HB.out hx301_4
                have HR301_4:=Aside0.mk hi301_4
                have HC301_4:=Aside0.mk hl301_4
                clear hi301_4 hl301_4
                replace p301:=eq_true p301
                replace q301:=eq_true q301
                have ea_:=Option.some.inj (hx300_4.symm.trans hx301_4)
                injection ea_ with ea_ en_ ec_
                subst ea_
                subst ec_
                clear en_
                have p302:0≤((ji14):Int):=of_decide_eq_true asm
                have q302:(ji14)<(l0.length:Int):=of_decide_eq_true asm
                obtain ⟨ad302,A302_4,c302_4,e302,hx302_0,hx302_1,hx302_2,hx302_3,hx302_4,hl302_4,hi302_4⟩:=at_T41 HR0.out (ji14) p302 q302
                obtain rfl:ad295=ad302:=(by injection e302)
                replace hx302_0:=pw_cell_below HB.out hx302_0
                replace hx302_1:=pw_cell_below HB.out hx302_1
                replace hx302_2:=pw_cell_below HB.out hx302_2
                replace hx302_3:=pw_cell_below HB.out hx302_3
                replace hx302_4:=pw_cell_below HB.out hx302_4
                have HR302_4:=Aside0.mk hi302_4
                have HC302_4:=Aside0.mk hl302_4
                clear hi302_4 hl302_4
                replace p302:=eq_true p302
                replace q302:=eq_true q302
                have p303:0≤((ji14):Int):=of_decide_eq_true asm
                have q303:(ji14)<(l0.length:Int):=of_decide_eq_true asm
                obtain ⟨ad303,A303_4,c303_4,e303,hx303_0,hx303_1,hx303_2,hx303_3,hx303_4,hl303_4,hi303_4⟩:=at_T41 HR0.out (ji14) p303 q303
                obtain rfl:ad295=ad303:=(by injection e303)
                replace hx303_0:=pw_cell_below HB.out hx303_0
                replace hx303_1:=pw_cell_below HB.out hx303_1
                replace hx303_2:=pw_cell_below HB.out hx303_2
                replace hx303_3:=pw_cell_below HB.out hx303_3
                replace hx303_4:=pw_cell_below HB.out hx303_4
                have HR303_4:=Aside0.mk hi303_4
                have HC303_4:=Aside0.mk hl303_4
                clear hi303_4 hl303_4
                replace p303:=eq_true p303
                replace q303:=eq_true q303
                have ea_:=Option.some.inj (hx302_4.symm.trans hx303_4)
                injection ea_ with ea_ en_ ec_
                subst ea_
                subst ec_
                clear en_
                go_wp2
                repeat (go_quiet (fail);try go_wp2)
                go_ret
                exact ⟨by first|rfl|(simp [errW_none,errW_some]<;>rfl)|(simp only [← hji14];first|rfl|(simp [errW_none,errW_some]<;>rfl))|(simp [*,errW_none,errW_some]<;>rfl),bel⟩
               ·rw [if_neg c17] at H
                have c17b0:decide (((rd_T41 l0 x3_1).f0)<(wrap64 (((rd_T41 l0 (ji14)).f0)+((rd_T41 l0 (ji14)).f1))))=false:=decide_eq_false c17
                clear c17
                have H':=Aside0.mk H
                clear H
                have p300:0≤(x3_1:Int):=of_decide_eq_true asm
                have q300:x3_1<(l0.length:Int):=of_decide_eq_true asm
                obtain ⟨ad300,A300_4,c300_4,e300,hx300_0,hx300_1,hx300_2,hx300_3,hx300_4,hl300_4,hi300_4⟩:=at_T41 HR0.out x3_1 p300 q300
                obtain rfl:ad295=ad300:=(by injection e300)
                replace hx300_0:=pw_cell_below HB.out hx300_0
                replace hx300_1:=pw_cell_below HB.out hx300_1
                replace hx300_2:=pw_cell_below HB.out hx300_2
                replace hx300_3:=pw_cell_below HB.out hx300_3
                replace hx300_4:=pw_cell_below HB.out hx300_4
                have HR300_4:=Aside0.mk hi300_4
                have HC300_4:=Aside0.mk hl300_4
                clear hi300_4 hl300_4
                replace p300:=eq_true p300
                replace q300:=eq_true q300
                have p301:0≤(x3_1:Int):=of_decide_eq_true asm
                have q301:x3_1<(l0.length:Int):=of_decide_eq_true asm
                obtain ⟨ad301,A301_4,c301_4,e301,hx301_0,hx301_1,hx301_2,hx301_3,hx301_4,hl301_4,hi301_4⟩:=at_T41 HR0.out x3_1 p301 q301
                obtain rfl:ad295=ad301:=(by injection e301)
                replace hx301_0:=pw_cell_below HB.out hx301_0
                replace hx301_1:=pw_cell_below HB.out hx301_1
                replace hx301_2:=pw_cell_below HB.out hx301_2
                replace hx301_3:=pw_cell_below HB.out hx301_3
                replace hx301_4:=pw_cell_below HB.out hx301_4
                have HR301_4:=Aside0.mk hi301_4
                have HC301_4:=Aside0.mk hl301_4
                clear hi301_4 hl301_4
                replace p301:=eq_true p301
                replace q301:=eq_true q301
                have ea_:=Option.some.inj (hx300_4.symm.trans hx301_4)
                injection ea_ with ea_ en_ ec_
                subst ea_
                subst ec_
                clear en_
                have p302:0≤((ji14):Int):=of_decide_eq_true asm
                have q302:(ji14)<(l0.length:Int):=of_decide_eq_true asm
                obtain ⟨ad302,A302_4,c302_4,e302,hx302_0,hx302_1,hx302_2,hx302_3,hx302_4,hl302_4,hi302_4⟩:=at_T41 HR0.out (ji14) p302 q302
                obtain rfl:ad295=ad302:=(by injection e302)
                replace hx302_0:=pw_cell_below HB.out hx302_0
                replace hx302_1:=pw_cell_below HB.out hx302_1
                replace hx302_2:=pw_cell_below HB.out hx302_2
                replace hx302_3:=pw_cell_below HB.out hx302_3
                replace hx302_4:=pw_cell_below HB.out hx302_4
                have HR302_4:=Aside0.mk hi302_4
                have HC302_4:=Aside0.mk hl302_4
                clear hi302_4 hl302_4
                replace p302:=eq_true p302
                replace q302:=eq_true q302
                have p303:0≤((ji14):Int):=of_decide_eq_true asm
                have q303:(ji14)<(l0.length:Int):=of_decide_eq_true asm
                obtain ⟨ad303,A303_4,c303_4,e303,hx303_0,hx303_1,hx303_2,hx303_3,hx303_4,hl303_4,hi303_4⟩:=at_T41 HR0.out (ji14) p303 q303
                obtain rfl:ad295=ad303:=(by injection e303)
                replace hx303_0:=pw_cell_below HB.out hx303_0
                replace hx303_1:=pw_cell_below HB.out hx303_1
                replace hx303_2:=pw_cell_below HB.out hx303_2
                replace hx303_3:=pw_cell_below HB.out hx303_3
                replace hx303_4:=pw_cell_below HB.out hx303_4
                have HR303_4:=Aside0.mk hi303_4
                have HC303_4:=Aside0.mk hl303_4
                clear hi303_4 hl303_4
                replace p303:=eq_true p303
                replace q303:=eq_true q303
                have ea_:=Option.some.inj (hx302_4.symm.trans hx303_4)
                injection ea_ with ea_ en_ ec_
                subst ea_
                subst ec_
                clear en_
                go_wp2
                repeat (go_quiet (fail);try go_wp2)
                go_roundg k2
                case measure=>have:=HK1.out;have:=HK2.out;omega
                case rel=>exact ⟨(wrap64 (x3_1+1)),rx,H',⟨by have:=HK1.out;have:=HK2.out;omega⟩,⟨by repeat (first|(with_reducible first|exact HB.out|apply below_alloc|apply pw_below_drewN|apply below_drew1)|exact HB.out)⟩⟩
              ·rw [if_neg c16] at H
               exact absurd H (by simp)
             ·rw [if_neg c15] at H
              exact absurd H (by simp)
            ·rw [if_neg c13] at H
             have c13b0:decide (0<x3_1)=false:=decide_eq_false c13
             clear c13
             have H':=Aside0.mk H
             clear H
             have p300:0≤(x3_1:Int):=of_decide_eq_true asm
             have q300:x3_1<(l0.length:Int):=of_decide_eq_true asm
             obtain ⟨ad300,A300_4,c300_4,e300,hx300_0,hx300_1,hx300_2,hx300_3,hx300_4,hl300_4,hi300_4⟩:=at_T41 HR0.out x3_1 p300 q300
             obtain rfl:ad295=ad300:=(by injection e300)
             replace hx300_0:=pw_cell_below HB.out hx300_0
             replace hx300_1:=pw_cell_below HB.out hx300_1
             replace hx300_2:=pw_cell_below HB.out hx300_2
             replace hx300_3:=pw_cell_below HB.out hx300_3
             replace hx300_4:=pw_cell_below HB.out hx300_4
             have HR300_4:=Aside0.mk hi300_4
             have HC300_4:=Aside0.mk hl300_4
             clear hi300_4 hl300_4
             replace p300:=eq_true p300
             replace q300:=eq_true q300
             go_wp2
             repeat (go_quiet (fail);try go_wp2)
             go_roundg k2
             case measure=>have:=HK1.out;have:=HK2.out;omega
             case rel=>exact ⟨(wrap64 (x3_1+1)),rx,H',⟨by have:=HK1.out;have:=HK2.out;omega⟩,⟨by repeat (first|(with_reducible first|exact HB.out|apply below_alloc|apply pw_below_drewN|apply below_drew1)|exact HB.out)⟩⟩
           ·rw [if_neg c12] at H
            have c12b0:(((rd_T41 l0 x3_1).f2) == x5_2)=false:=beq_eq_false_iff_ne.mpr c12
            have c12b1:(((rd_T41 l0 x3_1).f2) != x5_2)=true:=bne_iff_ne.mpr c12
            obtain rfl:=Option.some.inj H
            have p300:0≤(x3_1:Int):=of_decide_eq_true asm
            have q300:x3_1<(l0.length:Int):=of_decide_eq_true asm
            obtain ⟨ad300,A300_4,c300_4,e300,hx300_0,hx300_1,hx300_2,hx300_3,hx300_4,hl300_4,hi300_4⟩:=at_T41 HR0.out x3_1 p300 q300
            obtain rfl:ad295=ad300:=(by injection e300)
            replace hx300_0:=pw_cell_below HB.out hx300_0
            replace hx300_1:=pw_cell_below HB.out hx300_1
            replace hx300_2:=pw_cell_below HB.out hx300_2
            replace hx300_3:=pw_cell_below HB.out hx300_3
            replace hx300_4:=pw_cell_below HB.out hx300_4
            have HR300_4:=Aside0.mk hi300_4
            have HC300_4:=Aside0.mk hl300_4
            clear hi300_4 hl300_4
            replace p300:=eq_true p300
            replace q300:=eq_true q300
            go_wp2
            repeat (go_quiet (fail);try go_wp2)
            go_ret
            exact ⟨by first|rfl|(simp [errW_none,errW_some]<;>rfl)|(simp [*,errW_none,errW_some]<;>rfl),bel⟩
          ·rw [if_neg c11] at H
           exact absurd H (by simp)
         ·rw [if_neg c10] at H
          exact absurd H (by simp)
     ·replace c5:=Bool.eq_false_iff.mpr c5
      subst c5
      have H1:(some false)=some r:=by rw [if_neg (show ¬ (false=true) by decide)] at H;exact H
      clear H
      have H:=H1
      clear H1
      obtain rfl:=Option.some.inj H
      have p295:0≤(x3_1:Int):=of_decide_eq_true asm
      have q295:x3_1<(l0.length:Int):=of_decide_eq_true asm
      obtain ⟨ad295,A295_4,c295_4,e295,hx295_0,hx295_1,hx295_2,hx295_3,hx295_4,hl295_4,hi295_4⟩:=at_T41 HR0.out x3_1 p295 q295
      cases e295
      replace hx295_0:=pw_cell_below HB.out hx295_0
      replace hx295_1:=pw_cell_below HB.out hx295_1
      replace hx295_2:=pw_cell_below HB.out hx295_2
      replace hx295_3:=pw_cell_below HB.out hx295_3
      replace hx295_4:=pw_cell_below HB.out hx295_4
      have HR295_4:=Aside0.mk hi295_4
      have HC295_4:=Aside0.mk hl295_4
      clear hi295_4 hl295_4
      replace p295:=eq_true p295
      replace q295:=eq_true q295
      go_wp2_with ((go_at_call 25;(with_reducible refine (r05_Right.calls k1 ((rd_T41 l0 x3_1).f0) ((rd_T41 l0 x3_1).f1) ((rd_T41 l0 x3_1).f2) ((rd_T41 l0 x3_1).f3) _ _ ((rd_T41 l0 x3_1).f4) false _ ?side1 ?side2 A4.out).mono ?_);(case side1=>repeat (first|exact (Kd.C_below HR295_4.out HB.out)|(with_reducible refine Kd.C_alloc ?_ _)|(with_reducible refine Kd.C_drewN ?_ _)|(with_reducible refine Kd.C_drew ?_)));(case side2=>exact HC295_4.out);rintro e w18 ⟨rfl,hb⟩;have n0_:=Aside0.mk (below_step bel hb);clear HB;have HB:=n0_;clear n0_;(try clear hb);(try clear hb2);(try clear hk);(try clear hi)))
      go_ret
      exact ⟨by first|rfl|(simp [errW_none,errW_some]<;>rfl)|(simp [*,errW_none,errW_some]<;>rfl),bel⟩
    ·rw [if_neg c3] at H
     exact absurd H (by simp)
   ·rw [if_neg c2] at H
    have c2b0:decide (x3_1<(l0.length:Int))=false:=decide_eq_false c2
    clear c2
    obtain rfl:=Option.some.inj H
    go_wp2
    go_ret
    exact ⟨by first|rfl|(simp [errW_none,errW_some]<;>rfl)|(simp [*,errW_none,errW_some]<;>rfl),bel⟩

end Go.Proofs.Ytoaijganmfijmaa.Pr
-- shrunk
-- written by a program of this session's (a turned copy of the kit's printer); Lean checks it
namespace Go.Proofs.Ytoaijganmfijmaa.Pr
open Go.RowKit Go.Proofs.YtoaijganmfijmaaW.PrintWords Go.Proofs.YtoaijganmfijmaaW.PrintLast Go.Proofs.YtoaijganmfijmaaW.PrintMore
attribute [local go_sem] max2_int min2_int max_two min_two max_three min_three max_four min_four   -- for this text's walks alone

mutual
def r07_Apply.l0:Nat→List ByteArray→List (S41)→List ByteArray→Int→Int→Option (List ByteArray × Int)
 | 0,_,_,_,_,_=>none
 | k+1,x0,x1,x7,x8,x9=>if x9<(x1.length:Int) then (if 0≤x9 then (if ((rd_T41 x1 x9).f0) > (x0.length:Int) then (some (([]:List ByteArray),6)) else (r07_Apply.l1 k x0 x1 x7 x8 x9)) else (none)) else (r07_Apply.l3 k x0 x7 x8)
def r07_Apply.l1:Nat→List ByteArray→List (S41)→List ByteArray→Int→Int→Option (List ByteArray × Int)
 | 0,_,_,_,_,_=>none
 | k+1,x0,x1,x7,x8,x9=>if 0≤x9 then (if x9<(x1.length:Int) then (if x8<((rd_T41 x1 x9).f0) then (if 0≤x8 then (if x8<(x0.length:Int) then (if x7.length<8796093022208 then (r07_Apply.l1 k x0 x1 (x7++[rdOf ByteArray.empty x0 x8]) (wrap64 (x8+1)) x9) else (none)) else (none)) else (none)) else (r07_Apply.l2 k x0 x1 x7 x8 x9 0)) else (none)) else (none)
def r07_Apply.l2:Nat→List ByteArray→List (S41)→List ByteArray→Int→Int→Int→Option (List ByteArray × Int)
 | 0,_,_,_,_,_,_=>none
 | k+1,x0,x1,x7,x8,x9,x10=>if 0≤x9 then (if x9<(x1.length:Int) then (if x10<(((rd_T41 x1 x9).f4).length:Int) then (if 0≤x10 then (if 0<((rdOf ByteArray.empty ((rd_T41 x1 x9).f4) x10).size:Int) then (if (bt (rdOf ByteArray.empty ((rd_T41 x1 x9).f4) x10) 0)=43 then (if 1≤((rdOf ByteArray.empty ((rd_T41 x1 x9).f4) x10).size:Int) then (if x7.length<8796093022208 then (r07_Apply.l2 k x0 x1 (x7++[(rdOf ByteArray.empty ((rd_T41 x1 x9).f4) x10).extract 1 (rdOf ByteArray.empty ((rd_T41 x1 x9).f4) x10).size]) x8 x9 (wrap64 (x10+1))) else (none)) else (none)) else (if x8 ≥ (x0.length:Int) then (some (([]:List ByteArray),6)) else (if 0≤x8 then (if x8<(x0.length:Int) then (if 1≤((rdOf ByteArray.empty ((rd_T41 x1 x9).f4) x10).size:Int) then (if (rdOf ByteArray.empty x0 x8).toList=((rdOf ByteArray.empty ((rd_T41 x1 x9).f4) x10).extract 1 (rdOf ByteArray.empty ((rd_T41 x1 x9).f4) x10).size).toList then (if (bt (rdOf ByteArray.empty ((rd_T41 x1 x9).f4) x10) 0)=32 then (if x7.length<8796093022208 then (r07_Apply.l2 k x0 x1 (x7++[rdOf ByteArray.empty x0 x8]) (wrap64 (x8+1)) x9 (wrap64 (x10+1))) else (none)) else (r07_Apply.l2 k x0 x1 x7 (wrap64 (x8+1)) x9 (wrap64 (x10+1)))) else (some (([]:List ByteArray),6))) else (none)) else (none)) else (none)))) else (none)) else (none)) else (r07_Apply.l0 k x0 x1 x7 x8 (wrap64 (x9+1)))) else (none)) else (none)
def r07_Apply.l3:Nat→List ByteArray→List ByteArray→Int→Option (List ByteArray × Int)
 | 0,_,_,_=>none
 | k+1,x0,x7,x8=>if x8<(x0.length:Int) then (if 0≤x8 then (if x7.length<8796093022208 then (r07_Apply.l3 k x0 (x7++[rdOf ByteArray.empty x0 x8]) (wrap64 (x8+1))) else (none)) else (none)) else (some (x7,0))
end
def r07_Apply.f (k:Nat) (l0:List ByteArray) (l1:List (S41)):Option (List ByteArray × Int):=(r07_Right.f k l1).bind fun t304=>(if t304=true then (r07_Apply.l0 k l0 l1 ([]:List ByteArray) 0 0) else (some (([]:List ByteArray),3)))
theorem r07_Apply.mono_l:∀ k,(∀ y0 y1 y2 y3 y4,LeO (r07_Apply.l0 k y0 y1 y2 y3 y4) (r07_Apply.l0 (k+1) y0 y1 y2 y3 y4))∧(∀ y0 y1 y2 y3 y4,LeO (r07_Apply.l1 k y0 y1 y2 y3 y4) (r07_Apply.l1 (k+1) y0 y1 y2 y3 y4))∧(∀ y0 y1 y2 y3 y4 y5,LeO (r07_Apply.l2 k y0 y1 y2 y3 y4 y5) (r07_Apply.l2 (k+1) y0 y1 y2 y3 y4 y5))∧(∀ y0 y1 y2,LeO (r07_Apply.l3 k y0 y1 y2) (r07_Apply.l3 (k+1) y0 y1 y2))
 | 0=>⟨fun _ _ _ _ _ r h=>by simp [r07_Apply.l0] at h,fun _ _ _ _ _ r h=>by simp [r07_Apply.l1] at h,fun _ _ _ _ _ _ r h=>by simp [r07_Apply.l2] at h,fun _ _ _ r h=>by simp [r07_Apply.l3] at h⟩
 | k+1=>by
  obtain ⟨ih0,ih1,ih2,ih3⟩:=r07_Apply.mono_l k
  refine ⟨?_,?_,?_,?_⟩
  ·intro y0 y1 y2 y3 y4
   unfold r07_Apply.l0
   repeat' first
   | (with_reducible exact ih0 _ _ _ _ _)
   | (with_reducible exact ih1 _ _ _ _ _)
   | (with_reducible exact ih2 _ _ _ _ _ _)
   | (with_reducible exact ih3 _ _ _)
   | (with_reducible exact r07_Right.mono _ _)
   | (with_reducible exact LeO.refl _)
   | (with_reducible exact LeO.none _)
   | (with_reducible refine LeO.ite ?_ ?_)
   | (with_reducible refine LeO.bind ?_ (fun _=>?_))
   | exact ih0 _ _ _ _ _
   | exact ih1 _ _ _ _ _
   | exact ih2 _ _ _ _ _ _
   | exact ih3 _ _ _
   | exact r07_Right.mono _ _
   | exact LeO.none _
   | refine LeO.ite ?_ ?_
   | refine LeO.bind ?_ (fun _=>?_)
  ·intro y0 y1 y2 y3 y4
   unfold r07_Apply.l1
   repeat' first
   | (with_reducible exact ih0 _ _ _ _ _)
   | (with_reducible exact ih1 _ _ _ _ _)
   | (with_reducible exact ih2 _ _ _ _ _ _)
   | (with_reducible exact ih3 _ _ _)
   | (with_reducible exact r07_Right.mono _ _)
   | (with_reducible exact LeO.refl _)
   | (with_reducible exact LeO.none _)
   | (with_reducible refine LeO.ite ?_ ?_)
   | (with_reducible refine LeO.bind ?_ (fun _=>?_))
   | exact ih0 _ _ _ _ _
   | exact ih1 _ _ _ _ _
   | exact ih2 _ _ _ _ _ _
   | exact ih3 _ _ _
   | exact r07_Right.mono _ _
   | exact LeO.none _
   | refine LeO.ite ?_ ?_
   | refine LeO.bind ?_ (fun _=>?_)
  ·intro y0 y1 y2 y3 y4 y5
   unfold r07_Apply.l2
   repeat' first
   | (with_reducible exact ih0 _ _ _ _ _)
   | (with_reducible exact ih1 _ _ _ _ _)
   | (with_reducible exact ih2 _ _ _ _ _ _)
   | (with_reducible exact ih3 _ _ _)
   | (with_reducible exact r07_Right.mono _ _)
   | (with_reducible exact LeO.refl _)
   | (with_reducible exact LeO.none _)
   | (with_reducible refine LeO.ite ?_ ?_)
   | (with_reducible refine LeO.bind ?_ (fun _=>?_))
   | exact ih0 _ _ _ _ _
   | exact ih1 _ _ _ _ _
   | exact ih2 _ _ _ _ _ _
   | exact ih3 _ _ _
   | exact r07_Right.mono _ _
   | exact LeO.none _
   | refine LeO.ite ?_ ?_
   | refine LeO.bind ?_ (fun _=>?_)
  ·intro y0 y1 y2
   unfold r07_Apply.l3
   repeat' first
   | (with_reducible exact ih0 _ _ _ _ _)
   | (with_reducible exact ih1 _ _ _ _ _)
   | (with_reducible exact ih2 _ _ _ _ _ _)
   | (with_reducible exact ih3 _ _ _)
   | (with_reducible exact r07_Right.mono _ _)
   | (with_reducible exact LeO.refl _)
   | (with_reducible exact LeO.none _)
   | (with_reducible refine LeO.ite ?_ ?_)
   | (with_reducible refine LeO.bind ?_ (fun _=>?_))
   | exact ih0 _ _ _ _ _
   | exact ih1 _ _ _ _ _
   | exact ih2 _ _ _ _ _ _
   | exact ih3 _ _ _
   | exact r07_Right.mono _ _
   | exact LeO.none _
   | refine LeO.ite ?_ ?_
   | refine LeO.bind ?_ (fun _=>?_)
theorem r07_Apply.mono:∀ a0 a1 k,LeO (r07_Apply.f k a0 a1) (r07_Apply.f (k+1) a0 a1):=by
 intro a0 a1 k
 obtain ⟨ih0,ih1,ih2,ih3⟩:=r07_Apply.mono_l k
 unfold r07_Apply.f
 repeat' first
   | (with_reducible exact ih0 _ _ _ _ _)
   | (with_reducible exact ih1 _ _ _ _ _)
   | (with_reducible exact ih2 _ _ _ _ _ _)
   | (with_reducible exact ih3 _ _ _)
   | (with_reducible exact r07_Right.mono _ _)
   | (with_reducible exact LeO.refl _)
   | (with_reducible exact LeO.none _)
   | (with_reducible refine LeO.ite ?_ ?_)
   | (with_reducible refine LeO.bind ?_ (fun _=>?_))
   | exact ih0 _ _ _ _ _
   | exact ih1 _ _ _ _ _
   | exact ih2 _ _ _ _ _ _
   | exact ih3 _ _ _
   | exact r07_Right.mono _ _
   | exact LeO.none _
   | refine LeO.ite ?_ ?_
   | refine LeO.bind ?_ (fun _=>?_)
set_option maxHeartbeats 8000000 in
set_option maxRecDepth 100000 in
theorem r07_Apply.calls (k:Nat) (A0:Option Addr) (c0:Nat) (l0:List ByteArray) (A1:Option Addr) (c1:Nat) (l1:List (S41)) (r1:List ByteArray) (r2:Int) (w:World) (hr0:Kd.C Kd.string w A0 l0.length l0) (hc0:l0.length≤c0) (hr1:Kd.C k41 w A1 l1.length l1) (hc1:l1.length≤c1) (h:r07_Apply.f k l0 l1=some (r1,r2)) :
  Calls Try.prog 13 #[.slice A0 l0.length c0,.slice A1 l1.length c1] w fun e w'=>∃ v0_:Value,e=.returned (.tuple #[v0_,.int .i64 r2])∧Kd.R Kd.string 9 w' w.heap.size (fun _=>True) v0_ r1∧Below w.heap.size w w':=by
 have HR0:=Aside0.mk hr0
 have HC0:=Aside0.mk hc0
 clear hr0 hc0
 have HR1:=Aside0.mk hr1
 have HC1:=Aside0.mk hc1
 clear hr1 hc1
 have HB:=Aside0.mk (Below.refl w.heap.size w)
 have H:((r07_Right.f k l1).bind fun t304=>(if t304=true then (r07_Apply.l0 k l0 l1 ([]:List ByteArray) 0 0) else (some (([]:List ByteArray),3))))=some (r1,r2):=h
 clear h
 replace H:=Option.bind_eq_some_iff.mp H
 obtain ⟨t304,A30,H⟩:=H
 replace H:(if t304=true then (r07_Apply.l0 k l0 l1 ([]:List ByteArray) 0 0) else (some (([]:List ByteArray),3)))=some (r1,r2):=H
 have A3:=Aside0.mk A30
 clear A30
 by_cases c4:t304=true
 rotate_left
 ·replace c4:=Bool.eq_false_iff.mpr c4
  subst c4
  have H1:(some (([]:List ByteArray),3))=some (r1,r2):=by rw [if_neg (show ¬ (false=true) by decide)] at H;exact H
  clear H
  have H:=H1
  clear H1
  simp only [Option.some.injEq,Prod.mk.injEq] at H
  obtain ⟨rfl,rfl⟩:=H
  go_enter Try.func13,Try.ntmps13
  go_wp2_with ((go_at_call 16;(with_reducible refine (r07_Right.calls k _ _ l1 false _ ?side1 ?side2 A3.out).mono ?_);(case side1=>repeat (first|exact HR1.out|(with_reducible refine Kd.C_alloc ?_ _)|(with_reducible refine Kd.C_drewN ?_ _)|(with_reducible refine Kd.C_drew ?_)));(case side2=>exact HC1.out);rintro e w39 ⟨rfl,hb⟩;have n0_:=Aside0.mk (below_step bel hb);clear HB;have HB:=n0_;clear n0_;(try clear hb);(try clear hb2);(try clear hk);(try clear hi)))
  go_ret2
  exact ⟨_,by first|rfl|(simp [errW_none,errW_some]<;>rfl)|(simp [*,errW_none,errW_some]<;>rfl),by first|exact Kd.R_nil _ _ _ _ _|exact Kd.N_nil _ _ _ _ _|exact Kd.V_nil _ _ _ _ _|exact Kd.Q_nil _ _ _ _ _|exact Kd.S_nil _ _ _ _ _,bel⟩

 subst c4
 have H1:(r07_Apply.l0 k l0 l1 ([]:List ByteArray) 0 0)=some (r1,r2):=by rw [if_pos rfl] at H;exact H
 clear H
 have H:=H1
 clear H1
 have H':=Aside0.mk H
 clear H
 go_enter Try.func13,Try.ntmps13
 go_wp2_with ((go_at_call 16;(with_reducible refine (r07_Right.calls k _ _ l1 true _ ?side1 ?side2 A3.out).mono ?_);(case side1=>repeat (first|exact HR1.out|(with_reducible refine Kd.C_alloc ?_ _)|(with_reducible refine Kd.C_drewN ?_ _)|(with_reducible refine Kd.C_drew ?_)));(case side2=>exact HC1.out);rintro e w5 ⟨rfl,hb⟩;have n0_:=Aside0.mk (below_step bel hb);clear HB;have HB:=n0_;clear n0_;(try clear hb);(try clear hb2);(try clear hk);(try clear hi)))
 go_loopg [7,8,9] k (fun kq v7 v8 v9 w'=>∃ (x7_1:List ByteArray) (x8_1:Int) (x9_1:Int),v8=.int .i64 x8_1∧v9=.int .i64 x9_1∧Aside0 (r07_Apply.l0 kq l0 l1 x7_1 x8_1 x9_1=some (r1,r2))∧Aside0 (kq≤k)∧Aside0 (Kd.R Kd.string 9 w' w.heap.size (fun _=>True) v7 x7_1)∧Aside0 (Below w.heap.size w w'))
 case atStart=>exact ⟨(([]:List ByteArray)),(0),(0),rx,rx,H',⟨Nat.le_refl _⟩,⟨by first|exact Kd.R_nil _ _ _ _ _|exact Kd.N_nil _ _ _ _ _|exact Kd.V_nil _ _ _ _ _|exact Kd.Q_nil _ _ _ _ _|exact Kd.S_nil _ _ _ _ _⟩,⟨by repeat (first|(with_reducible first|exact HB.out|apply below_alloc|apply pw_below_drewN|apply below_drew1)|exact HB.out)⟩⟩
 case round =>
  clear H'
  try clear c1
  try clear p2
  try clear c4
  obtain ⟨x7_1,x8_1,x9_1,rfl,rfl,HA,HK1,HO_7,HB⟩:=hrel
  cases gk with
  | zero=>exact absurd HA.out (by simp [r07_Apply.l0])
  | succ k1 =>
   have H:=HA.out
   clear HA
   simp only [r07_Apply.l0] at H
   by_cases c6:x9_1<(l1.length:Int)
   rotate_left
   ·rw [if_neg c6] at H
    have c6b0:decide (x9_1<(l1.length:Int))=false:=decide_eq_false c6
    clear c6
    have H':=Aside0.mk H
    clear H
    go_wp2
    go_loopg [7,8] k1 (fun kq v7 v8 w'=>∃ (x7_2:List ByteArray) (x8_2:Int),v8=.int .i64 x8_2∧Aside0 (r07_Apply.l3 kq l0 x7_2 x8_2=some (r1,r2))∧Aside0 (kq≤k1)∧Aside0 (Kd.R Kd.string 9 w' w.heap.size (fun _=>True) v7 x7_2)∧Aside0 (Below w.heap.size w w'))
    case atStart=>exact ⟨(x7_1),(x8_1),rx,H',⟨Nat.le_refl _⟩,⟨by (with_reducible repeat (first|apply Kd.R_alloc|apply Kd.R_drewN|apply Kd.R_drew));exact HO_7.out⟩,⟨by repeat (first|(with_reducible first|exact HB.out|apply below_alloc|apply pw_below_drewN|apply below_drew1)|exact HB.out)⟩⟩
    case round =>
     clear H'
     try clear c1
     try clear c2
     try clear p2
     try clear q2
     try clear hx2
     try clear qi2
     try clear c3
     try clear p3
     try clear q3
     try clear hx3
     try clear qi3
     try clear c4
     try clear c6
     try clear c6b0
     try clear p6
     try clear c7
     try clear c7b0
     try clear c8
     try clear c8b0
     try clear c9
     try clear c9b0
     try clear c10
     try clear c10b0
     try clear c11
     try clear c11b0
     try clear c12
     try clear c12b0
     try clear c13
     try clear c13b0
     try clear c14
     try clear c16
     try clear c16b0
     try clear c17
     try clear c17b0
     try clear c18
     try clear c18b0
     try clear c19
     try clear c19b0
     try clear c20
     try clear c20b0
     try clear c20b1
     try clear p21
     try clear q21
     try clear hx21
     try clear qi21
     try clear c22
     try clear c22b0
     try clear c22b1
     try clear c23
     try clear c23b0
     try clear c23b1
     try clear c24
     try clear c26
     try clear c26b0
     try clear c27
     try clear c27b0
     try clear c28
     try clear c28b0
     try clear c29
     try clear c29b0
     try clear c29b1
     try clear c30
     try clear c30b0
     try clear c30b1
     try clear p30
     try clear q30
     try clear hx30
     try clear c31
     try clear p31
     try clear q31
     try clear hx31
     try clear qi31
     try clear c32
     try clear c32b0
     try clear c32b1
     try clear c33
     try clear hx305_0
     try clear hx305_1
     try clear hx305_2
     try clear hx305_3
     try clear hx305_4
     try clear hx306_0
     try clear hx306_1
     try clear hx306_2
     try clear hx306_3
     try clear hx306_4
     try clear hx307_0
     try clear hx311_0
     try clear hx311_1
     try clear hx311_2
     try clear hx311_3
     try clear hx311_4
     try clear hx312_0
     try clear hx312_1
     try clear hx312_2
     try clear hx312_3
     try clear hx312_4
     try clear hx313_0
     try clear hx317_0
     try clear hx318_0
     try clear p2
     try clear p21
     try clear p3
     try clear p305
     try clear p306
     try clear p307
     try clear p31
     try clear p311
     try clear p312
     try clear p313
     try clear p317
     try clear p318
     try clear p6
     try clear q21
     try clear q3
     try clear q305
     try clear q306
     try clear q307
     try clear q31
     try clear q311
     try clear q312
     try clear q313
     try clear q317
     try clear q318
     obtain ⟨x7_2,x8_2,rfl,HA,HK2,HO_7,HB⟩:=hrel
     cases gk with
     | zero=>exact absurd HA.out (by simp [r07_Apply.l3])
     | succ k2 =>
      have H:=HA.out
      clear HA
      simp only [r07_Apply.l3] at H
      by_cases c35:x8_2<(l0.length:Int)
      rotate_left
      ·rw [if_neg c35] at H
       have c35b0:decide (x8_2<(l0.length:Int))=false:=decide_eq_false c35
       clear c35
       simp only [Option.some.injEq,Prod.mk.injEq] at H
       obtain ⟨rfl,rfl⟩:=H
       go_wp2
       go_ret2
       exact ⟨_,by first|rfl|(simp [errW_none,errW_some]<;>rfl)|(simp [*,errW_none,errW_some]<;>rfl),by (with_reducible repeat (first|apply Kd.R_alloc|apply Kd.R_drewN|apply Kd.R_drew));exact HO_7.out,bel⟩
      rw [if_pos c35] at H
      have c35b0:decide (x8_2<(l0.length:Int))=true:=decide_eq_true c35
      clear c35
      by_cases c36:0≤x8_2
      rotate_left
      ·rw [if_neg c36] at H
       exact absurd H (by simp)
      rw [if_pos c36] at H
      have c36b0:decide (0≤x8_2)=true:=decide_eq_true c36
      clear c36
      by_cases c37:x7_2.length<8796093022208
      rotate_left
      ·rw [if_neg c37] at H
       exact absurd H (by simp)
      rw [if_pos c37] at H
      have LMc37:=Aside0.mk c37
      clear c37
      obtain ⟨y323,hy323⟩:∃ y_:List ByteArray,y_=(x7_2++[rdOf ByteArray.empty l0 x8_2]):=⟨_,rfl⟩
      replace H:(r07_Apply.l3 k2 l0 y323 (wrap64 (x8_2+1)))=some (r1,r2):=by first|(rw [hy323];with_reducible exact H)|(have H2_:=(Option.bind_some _ _).symm.trans H;rw [hy323];with_reducible exact H2_)|(have H2_:=(Option.bind_some _ _).symm.trans H;with_reducible exact H2_)|with_reducible exact H|(rw [hy323];exact H)|exact H
      have Ny323:=Aside0.mk hy323
      clear hy323
      have H':=Aside0.mk H
      clear H
      have p322:0≤(x8_2:Int):=of_decide_eq_true asm
      have q322:x8_2<(l0.length:Int):=of_decide_eq_true asm
      obtain ⟨ad322,e322,hx322_0⟩:=Kd.at_string HR0.out x8_2 p322 q322
      cases e322
      replace hx322_0:=pw_cell_below HB.out hx322_0
      replace p322:=eq_true p322
      replace q322:=eq_true q322
      go_wp2_with (((with_reducible refine gate_builtin (b:=.append) (xs:=#[.tmp 99,.tmp 104]) rfl ?_);at_builtin;refine Kd.R_append Kd.string (w0:=w) w.heap.size rfl (.tmp 99) (.tmp 104) 22 9 (.string ⟨#[]⟩) 16 rfl Try.underlying22 info9 rfl (by decide) (by omega) u7 x7_2 (rdOf ByteArray.empty l0 x8_2) [.string (rdOf ByteArray.empty l0 x8_2)] (fun _=>True) (fun _=>False) rfl rfl ?aP (fun _ hk=>hk.elim) ?aF ?aO ?aB ?aS ?aL ?_;(case aP=>exact rfl);(case aB=>exact bel);(case aF=>exact (fun _ _=>trivial));(case aO=>exact (by (with_reducible repeat (first|apply Kd.R_alloc|apply Kd.R_drewN|apply Kd.R_drew));exact HO_7.out));(case aS=>exact (below_size bel));(case aL=>have:=LMc37.out;omega);intro v324 w38 ho hb hg hat;rw [← Ny323.out] at ho;have n0_:=Aside0.mk (hb);have n1_:=Aside0.mk (ho);clear HB;clear HO_7;have HB:=n0_;have HO325:=n1_;clear n0_ n1_;clear ho hb hg hat))
      go_roundg k2
      case measure=>have:=HK1.out;have:=HK2.out;omega
      case rel=>exact ⟨(y323),(wrap64 (x8_2+1)),rx,H',⟨by have:=HK1.out;have:=HK2.out;omega⟩,⟨by (with_reducible repeat (first|apply Kd.R_alloc|apply Kd.R_drewN|apply Kd.R_drew));exact HO325.out⟩,⟨by repeat (first|(with_reducible first|exact HB.out|apply below_alloc|apply pw_below_drewN|apply below_drew1)|exact HB.out)⟩⟩
   rw [if_pos c6] at H
   have c6b0:decide (x9_1<(l1.length:Int))=true:=decide_eq_true c6
   clear c6
   by_cases c7:0≤x9_1
   rotate_left
   ·rw [if_neg c7] at H
    exact absurd H (by simp)
   rw [if_pos c7] at H
   have c7b0:decide (0≤x9_1)=true:=decide_eq_true c7
   clear c7
   by_cases c8:((rd_T41 l1 x9_1).f0) > (l0.length:Int)
   ·rw [if_pos c8] at H
    have c8b0:decide ((l0.length:Int)<((rd_T41 l1 x9_1).f0))=true:=decide_eq_true c8
    clear c8
    simp only [Option.some.injEq,Prod.mk.injEq] at H
    obtain ⟨rfl,rfl⟩:=H
    have p305:0≤(x9_1:Int):=of_decide_eq_true asm
    have q305:x9_1<(l1.length:Int):=of_decide_eq_true asm
    obtain ⟨ad305,A305_4,c305_4,e305,hx305_0,hx305_1,hx305_2,hx305_3,hx305_4,hl305_4,hi305_4⟩:=at_T41 HR1.out x9_1 p305 q305
    cases e305
    replace hx305_0:=pw_cell_below HB.out hx305_0
    replace hx305_1:=pw_cell_below HB.out hx305_1
    replace hx305_2:=pw_cell_below HB.out hx305_2
    replace hx305_3:=pw_cell_below HB.out hx305_3
    replace hx305_4:=pw_cell_below HB.out hx305_4
    have HR305_4:=Aside0.mk hi305_4
    have HC305_4:=Aside0.mk hl305_4
    clear hi305_4 hl305_4
    replace p305:=eq_true p305
    replace q305:=eq_true q305
    go_wp2
    go_ret2
    exact ⟨_,by first|rfl|(simp [errW_none,errW_some]<;>rfl)|(simp [*,errW_none,errW_some]<;>rfl),by first|exact Kd.R_nil _ _ _ _ _|exact Kd.N_nil _ _ _ _ _|exact Kd.V_nil _ _ _ _ _|exact Kd.Q_nil _ _ _ _ _|exact Kd.S_nil _ _ _ _ _,bel⟩
   rw [if_neg c8] at H
   have c8b0:decide ((l0.length:Int)<((rd_T41 l1 x9_1).f0))=false:=decide_eq_false c8
   clear c8
   have H':=Aside0.mk H
   clear H
   have p305:0≤(x9_1:Int):=of_decide_eq_true asm
   have q305:x9_1<(l1.length:Int):=of_decide_eq_true asm
   obtain ⟨ad305,A305_4,c305_4,e305,hx305_0,hx305_1,hx305_2,hx305_3,hx305_4,hl305_4,hi305_4⟩:=at_T41 HR1.out x9_1 p305 q305
   cases e305
   replace hx305_0:=pw_cell_below HB.out hx305_0
   replace hx305_1:=pw_cell_below HB.out hx305_1
   replace hx305_2:=pw_cell_below HB.out hx305_2
   replace hx305_3:=pw_cell_below HB.out hx305_3
   replace hx305_4:=pw_cell_below HB.out hx305_4
   have HR305_4:=Aside0.mk hi305_4
   have HC305_4:=Aside0.mk hl305_4
   clear hi305_4 hl305_4
   replace p305:=eq_true p305
   replace q305:=eq_true q305
   go_wp2
   go_loopg [7,8] k1 (fun kq v7 v8 w'=>∃ (x7_2:List ByteArray) (x8_2:Int),v8=.int .i64 x8_2∧Aside0 (r07_Apply.l1 kq l0 l1 x7_2 x8_2 x9_1=some (r1,r2))∧Aside0 (kq≤k1)∧Aside0 (Kd.R Kd.string 9 w' w.heap.size (fun _=>True) v7 x7_2)∧Aside0 (Below w.heap.size w w'))
   case atStart=>exact ⟨(x7_1),(x8_1),rx,H',⟨Nat.le_refl _⟩,⟨by (with_reducible repeat (first|apply Kd.R_alloc|apply Kd.R_drewN|apply Kd.R_drew));exact HO_7.out⟩,⟨by repeat (first|(with_reducible first|exact HB.out|apply below_alloc|apply pw_below_drewN|apply below_drew1)|exact HB.out)⟩⟩
   case round =>
    clear H'
    try clear c1
    try clear p2
    try clear c3
    try clear p3
    try clear q3
    try clear hx3
    try clear c4
    try clear c6
    try clear c6b0
    try clear c7
    try clear c7b0
    try clear c8
    try clear c8b0
    try clear hx305_0
    try clear hx305_1
    try clear hx305_2
    try clear hx305_3
    try clear hx305_4
    try clear p2
    try clear p305
    try clear q305
    obtain ⟨x7_2,x8_2,rfl,HA,HK2,HO_7,HB⟩:=hrel
    cases gk with
    | zero=>exact absurd HA.out (by simp [r07_Apply.l1])
    | succ k2 =>
     have H:=HA.out
     clear HA
     simp only [r07_Apply.l1] at H
     by_cases c9:0≤x9_1
     rotate_left
     ·rw [if_neg c9] at H
      exact absurd H (by simp)
     rw [if_pos c9] at H
     have c9b0:decide (0≤x9_1)=true:=decide_eq_true c9
     clear c9
     by_cases c10:x9_1<(l1.length:Int)
     rotate_left
     ·rw [if_neg c10] at H
      exact absurd H (by simp)
     rw [if_pos c10] at H
     have c10b0:decide (x9_1<(l1.length:Int))=true:=decide_eq_true c10
     clear c10
     by_cases c11:x8_2<((rd_T41 l1 x9_1).f0)
     ·rw [if_pos c11] at H
      have c11b0:decide (x8_2<((rd_T41 l1 x9_1).f0))=true:=decide_eq_true c11
      clear c11
      by_cases c12:0≤x8_2
      rotate_left
      ·rw [if_neg c12] at H
       exact absurd H (by simp)
      rw [if_pos c12] at H
      have c12b0:decide (0≤x8_2)=true:=decide_eq_true c12
      clear c12
      by_cases c13:x8_2<(l0.length:Int)
      rotate_left
      ·rw [if_neg c13] at H
       exact absurd H (by simp)
      rw [if_pos c13] at H
      have c13b0:decide (x8_2<(l0.length:Int))=true:=decide_eq_true c13
      clear c13
      by_cases c14:x7_2.length<8796093022208
      rotate_left
      ·rw [if_neg c14] at H
       exact absurd H (by simp)
      rw [if_pos c14] at H
      have LMc14:=Aside0.mk c14
      clear c14
      obtain ⟨y308,hy308⟩:∃ y_:List ByteArray,y_=(x7_2++[rdOf ByteArray.empty l0 x8_2]):=⟨_,rfl⟩
      replace H:(r07_Apply.l1 k2 l0 l1 y308 (wrap64 (x8_2+1)) x9_1)=some (r1,r2):=by first|(rw [hy308];with_reducible exact H)|(have H2_:=(Option.bind_some _ _).symm.trans H;rw [hy308];with_reducible exact H2_)|(have H2_:=(Option.bind_some _ _).symm.trans H;with_reducible exact H2_)|with_reducible exact H|(rw [hy308];exact H)|exact H
      have Ny308:=Aside0.mk hy308
      clear hy308
      have H':=Aside0.mk H
      clear H
      have p306:0≤(x9_1:Int):=of_decide_eq_true asm
      have q306:x9_1<(l1.length:Int):=of_decide_eq_true asm
      obtain ⟨ad306,A306_4,c306_4,e306,hx306_0,hx306_1,hx306_2,hx306_3,hx306_4,hl306_4,hi306_4⟩:=at_T41 HR1.out x9_1 p306 q306
      obtain rfl:ad305=ad306:=(by injection e306)
      replace hx306_0:=pw_cell_below HB.out hx306_0
      replace hx306_1:=pw_cell_below HB.out hx306_1
      replace hx306_2:=pw_cell_below HB.out hx306_2
      replace hx306_3:=pw_cell_below HB.out hx306_3
      replace hx306_4:=pw_cell_below HB.out hx306_4
      have HR306_4:=Aside0.mk hi306_4
      have HC306_4:=Aside0.mk hl306_4
      clear hi306_4 hl306_4
      replace p306:=eq_true p306
      replace q306:=eq_true q306
      have p307:0≤(x8_2:Int):=of_decide_eq_true asm
      have q307:x8_2<(l0.length:Int):=of_decide_eq_true asm
      obtain ⟨ad307,e307,hx307_0⟩:=Kd.at_string HR0.out x8_2 p307 q307
      cases e307
      replace hx307_0:=pw_cell_below HB.out hx307_0
      replace p307:=eq_true p307
      replace q307:=eq_true q307
      go_wp2_with (((with_reducible refine gate_builtin (b:=.append) (xs:=#[.tmp 37,.tmp 42]) rfl ?_);at_builtin;refine Kd.R_append Kd.string (w0:=w) w.heap.size rfl (.tmp 37) (.tmp 42) 22 9 (.string ⟨#[]⟩) 16 rfl Try.underlying22 info9 rfl (by decide) (by omega) u7 x7_2 (rdOf ByteArray.empty l0 x8_2) [.string (rdOf ByteArray.empty l0 x8_2)] (fun _=>True) (fun _=>False) rfl rfl ?aP (fun _ hk=>hk.elim) ?aF ?aO ?aB ?aS ?aL ?_;(case aP=>exact rfl);(case aB=>exact bel);(case aF=>exact (fun _ _=>trivial));(case aO=>exact (by (with_reducible repeat (first|apply Kd.R_alloc|apply Kd.R_drewN|apply Kd.R_drew));exact HO_7.out));(case aS=>exact (below_size bel));(case aL=>have:=LMc14.out;omega);intro v309 w15 ho hb hg hat;rw [← Ny308.out] at ho;have n0_:=Aside0.mk (hb);have n1_:=Aside0.mk (ho);clear HB;clear HO_7;have HB:=n0_;have HO310:=n1_;clear n0_ n1_;clear ho hb hg hat))
      go_roundg k2
      case measure=>have:=HK1.out;have:=HK2.out;omega
      case rel=>exact ⟨(y308),(wrap64 (x8_2+1)),rx,H',⟨by have:=HK1.out;have:=HK2.out;omega⟩,⟨by (with_reducible repeat (first|apply Kd.R_alloc|apply Kd.R_drewN|apply Kd.R_drew));exact HO310.out⟩,⟨by repeat (first|(with_reducible first|exact HB.out|apply below_alloc|apply pw_below_drewN|apply below_drew1)|exact HB.out)⟩⟩
     rw [if_neg c11] at H
     have c11b0:decide (x8_2<((rd_T41 l1 x9_1).f0))=false:=decide_eq_false c11
     clear c11
     have H':=Aside0.mk H
     clear H
     have p306:0≤(x9_1:Int):=of_decide_eq_true asm
     have q306:x9_1<(l1.length:Int):=of_decide_eq_true asm
     obtain ⟨ad306,A306_4,c306_4,e306,hx306_0,hx306_1,hx306_2,hx306_3,hx306_4,hl306_4,hi306_4⟩:=at_T41 HR1.out x9_1 p306 q306
     obtain rfl:ad305=ad306:=(by injection e306)
     replace hx306_0:=pw_cell_below HB.out hx306_0
     replace hx306_1:=pw_cell_below HB.out hx306_1
     replace hx306_2:=pw_cell_below HB.out hx306_2
     replace hx306_3:=pw_cell_below HB.out hx306_3
     replace hx306_4:=pw_cell_below HB.out hx306_4
     have HR306_4:=Aside0.mk hi306_4
     have HC306_4:=Aside0.mk hl306_4
     clear hi306_4 hl306_4
     replace p306:=eq_true p306
     replace q306:=eq_true q306
     go_wp2
     go_loopg [7,8,10] k2 (fun kq v7 v8 v10 w'=>∃ (x7_3:List ByteArray) (x8_3:Int) (x10_3:Int),v8=.int .i64 x8_3∧v10=.int .i64 x10_3∧Aside0 (r07_Apply.l2 kq l0 l1 x7_3 x8_3 x9_1 x10_3=some (r1,r2))∧Aside0 (kq≤k2)∧Aside0 (Kd.R Kd.string 9 w' w.heap.size (fun _=>True) v7 x7_3)∧Aside0 (Below w.heap.size w w'))
     case atStart=>exact ⟨(x7_2),(x8_2),(0),rx,rx,H',⟨Nat.le_refl _⟩,⟨by (with_reducible repeat (first|apply Kd.R_alloc|apply Kd.R_drewN|apply Kd.R_drew));exact HO_7.out⟩,⟨by repeat (first|(with_reducible first|exact HB.out|apply below_alloc|apply pw_below_drewN|apply below_drew1)|exact HB.out)⟩⟩
     case round =>
      clear H'
      try clear c1
      try clear p2
      try clear c3
      try clear p3
      try clear q3
      try clear hx3
      try clear c4
      try clear c6
      try clear c6b0
      try clear p6
      try clear c7
      try clear c7b0
      try clear c8
      try clear c8b0
      try clear c9
      try clear c9b0
      try clear c10
      try clear c10b0
      try clear c11
      try clear c11b0
      try clear c12
      try clear c12b0
      try clear c13
      try clear c13b0
      try clear c14
      try clear hx305_0
      try clear hx305_1
      try clear hx305_2
      try clear hx305_3
      try clear hx305_4
      try clear hx306_0
      try clear hx306_1
      try clear hx306_2
      try clear hx306_3
      try clear hx306_4
      try clear hx307_0
      try clear p2
      try clear p3
      try clear p305
      try clear p306
      try clear p307
      try clear q3
      try clear q305
      try clear q306
      try clear q307
      obtain ⟨x7_3,x8_3,x10_3,rfl,rfl,HA,HK3,HO_7,HB⟩:=hrel
      cases gk with
      | zero=>exact absurd HA.out (by simp [r07_Apply.l2])
      | succ k3 =>
       have H:=HA.out
       clear HA
       simp only [r07_Apply.l2] at H
       by_cases c16:0≤x9_1
       rotate_left
       ·rw [if_neg c16] at H
        exact absurd H (by simp)
       rw [if_pos c16] at H
       have c16b0:decide (0≤x9_1)=true:=decide_eq_true c16
       clear c16
       by_cases c17:x9_1<(l1.length:Int)
       rotate_left
       ·rw [if_neg c17] at H
        exact absurd H (by simp)
       rw [if_pos c17] at H
       have c17b0:decide (x9_1<(l1.length:Int))=true:=decide_eq_true c17
       clear c17
       by_cases c18:x10_3<(((rd_T41 l1 x9_1).f4).length:Int)
       rotate_left
       ·rw [if_neg c18] at H
        have c18b0:decide (x10_3<(((rd_T41 l1 x9_1).f4).length:Int))=false:=decide_eq_false c18
        clear c18
        have H':=Aside0.mk H
        clear H
        have p311:0≤(x9_1:Int):=of_decide_eq_true asm
        have q311:x9_1<(l1.length:Int):=of_decide_eq_true asm
        obtain ⟨ad311,A311_4,c311_4,e311,hx311_0,hx311_1,hx311_2,hx311_3,hx311_4,hl311_4,hi311_4⟩:=at_T41 HR1.out x9_1 p311 q311
        obtain rfl:ad305=ad311:=(by injection e311)
        replace hx311_0:=pw_cell_below HB.out hx311_0
        replace hx311_1:=pw_cell_below HB.out hx311_1
        replace hx311_2:=pw_cell_below HB.out hx311_2
        replace hx311_3:=pw_cell_below HB.out hx311_3
        replace hx311_4:=pw_cell_below HB.out hx311_4
        have HR311_4:=Aside0.mk hi311_4
        have HC311_4:=Aside0.mk hl311_4
        clear hi311_4 hl311_4
        replace p311:=eq_true p311
        replace q311:=eq_true q311
        go_wp2
        go_roundg k3
        case measure=>have:=HK1.out;have:=HK2.out;have:=HK3.out;omega
        case rel=>exact ⟨(x7_3),(x8_3),(wrap64 (x9_1+1)),rx,rx,H',⟨by have:=HK1.out;have:=HK2.out;have:=HK3.out;omega⟩,⟨by (with_reducible repeat (first|apply Kd.R_alloc|apply Kd.R_drewN|apply Kd.R_drew));exact HO_7.out⟩,⟨by repeat (first|(with_reducible first|exact HB.out|apply below_alloc|apply pw_below_drewN|apply below_drew1)|exact HB.out)⟩⟩
       rw [if_pos c18] at H
       have c18b0:decide (x10_3<(((rd_T41 l1 x9_1).f4).length:Int))=true:=decide_eq_true c18
       clear c18
       by_cases c19:0≤x10_3
       rotate_left
       ·rw [if_neg c19] at H
        exact absurd H (by simp)
       rw [if_pos c19] at H
       have c19b0:decide (0≤x10_3)=true:=decide_eq_true c19
       clear c19
       by_cases c20:0<((rdOf ByteArray.empty ((rd_T41 l1 x9_1).f4) x10_3).size:Int)
       rotate_left
       ·rw [if_neg c20] at H
        exact absurd H (by simp)
       rw [if_pos c20] at H
       have c20b0:decide (0<((rdOf ByteArray.empty ((rd_T41 l1 x9_1).f4) x10_3).size:Int))=true:=decide_eq_true c20
       have c20b1:decide (0<(rdOf ByteArray.empty ((rd_T41 l1 x9_1).f4) x10_3).size)=true:=decide_eq_true (by omega)
       clear c20
       by_cases c22:(bt (rdOf ByteArray.empty ((rd_T41 l1 x9_1).f4) x10_3) 0)=43
       ·rw [if_pos c22] at H
        have c22b0:((bt (rdOf ByteArray.empty ((rd_T41 l1 x9_1).f4) x10_3) 0) == 43)=true:=beq_iff_eq.mpr c22
        have c22b1:((bt (rdOf ByteArray.empty ((rd_T41 l1 x9_1).f4) x10_3) 0) != 43)=false:=bne_eq_false_iff_eq.mpr c22
        clear c22
        by_cases c23:1≤((rdOf ByteArray.empty ((rd_T41 l1 x9_1).f4) x10_3).size:Int)
        rotate_left
        ·rw [if_neg c23] at H
         exact absurd H (by simp)
        rw [if_pos c23] at H
        have c23b0:=eq_true c23
        have c23b1:decide (1≤((rdOf ByteArray.empty ((rd_T41 l1 x9_1).f4) x10_3).size:Int))=true:=decide_eq_true c23
        clear c23
        by_cases c24:x7_3.length<8796093022208
        rotate_left
        ·rw [if_neg c24] at H
         exact absurd H (by simp)
        rw [if_pos c24] at H
        have LMc24:=Aside0.mk c24
        clear c24
        obtain ⟨y314,hy314⟩:∃ y_:List ByteArray,y_=(x7_3++[(rdOf ByteArray.empty ((rd_T41 l1 x9_1).f4) x10_3).extract 1 (rdOf ByteArray.empty ((rd_T41 l1 x9_1).f4) x10_3).size]):=⟨_,rfl⟩
        replace H:(r07_Apply.l2 k3 l0 l1 y314 x8_3 x9_1 (wrap64 (x10_3+1)))=some (r1,r2):=by first|(rw [hy314];with_reducible exact H)|(have H2_:=(Option.bind_some _ _).symm.trans H;rw [hy314];with_reducible exact H2_)|(have H2_:=(Option.bind_some _ _).symm.trans H;with_reducible exact H2_)|with_reducible exact H|(rw [hy314];exact H)|exact H
        have Ny314:=Aside0.mk hy314
        clear hy314
        have H':=Aside0.mk H
        clear H
        have p311:0≤(x9_1:Int):=of_decide_eq_true asm
        have q311:x9_1<(l1.length:Int):=of_decide_eq_true asm
        obtain ⟨ad311,A311_4,c311_4,e311,hx311_0,hx311_1,hx311_2,hx311_3,hx311_4,hl311_4,hi311_4⟩:=at_T41 HR1.out x9_1 p311 q311
        obtain rfl:ad305=ad311:=(by injection e311)
        replace hx311_0:=pw_cell_below HB.out hx311_0
        replace hx311_1:=pw_cell_below HB.out hx311_1
        replace hx311_2:=pw_cell_below HB.out hx311_2
        replace hx311_3:=pw_cell_below HB.out hx311_3
        replace hx311_4:=pw_cell_below HB.out hx311_4
        have HR311_4:=Aside0.mk hi311_4
        have HC311_4:=Aside0.mk hl311_4
        clear hi311_4 hl311_4
        replace p311:=eq_true p311
        replace q311:=eq_true q311
        have p312:0≤(x9_1:Int):=of_decide_eq_true asm
        have q312:x9_1<(l1.length:Int):=of_decide_eq_true asm
        obtain ⟨ad312,A312_4,c312_4,e312,hx312_0,hx312_1,hx312_2,hx312_3,hx312_4,hl312_4,hi312_4⟩:=at_T41 HR1.out x9_1 p312 q312
        obtain rfl:ad305=ad312:=(by injection e312)
        replace hx312_0:=pw_cell_below HB.out hx312_0
        replace hx312_1:=pw_cell_below HB.out hx312_1
        replace hx312_2:=pw_cell_below HB.out hx312_2
        replace hx312_3:=pw_cell_below HB.out hx312_3
        replace hx312_4:=pw_cell_below HB.out hx312_4
        have HR312_4:=Aside0.mk hi312_4
        have HC312_4:=Aside0.mk hl312_4
        clear hi312_4 hl312_4
        replace p312:=eq_true p312
        replace q312:=eq_true q312
        have ea_:=Option.some.inj (hx311_4.symm.trans hx312_4)
        injection ea_ with ea_ en_ ec_
        subst ea_
        subst ec_
        clear en_
        have p313:0≤(x10_3:Int):=of_decide_eq_true asm
        have q313:x10_3<(((rd_T41 l1 x9_1).f4).length:Int):=of_decide_eq_true asm
        obtain ⟨ad313,e313,hx313_0⟩:=Kd.at_string HR312_4.out x10_3 p313 q313
        cases e313
        replace hx313_0:=pw_cell_below HB.out hx313_0
        replace p313:=eq_true p313
        replace q313:=eq_true q313
        have p21:0≤(0:Int):=(by omega)
        have q21:0<(rdOf ByteArray.empty ((rd_T41 l1 x9_1).f4) x10_3).size:=(by have:(0:Int)<((rdOf ByteArray.empty ((rd_T41 l1 x9_1).f4) x10_3).size:Int):=of_decide_eq_true asm;omega)
        have hx21:∀ h:0<(rdOf ByteArray.empty ((rd_T41 l1 x9_1).f4) x10_3).size,(((rdOf ByteArray.empty ((rd_T41 l1 x9_1).f4) x10_3)[0]'h).toNat:Int)=bt (rdOf ByteArray.empty ((rd_T41 l1 x9_1).f4) x10_3) 0:=bt_at (rdOf ByteArray.empty ((rd_T41 l1 x9_1).f4) x10_3) 0
        clear p21
        have qi21:(0<((rdOf ByteArray.empty ((rd_T41 l1 x9_1).f4) x10_3).size:Int))=True:=eq_true (of_decide_eq_true asm)
        replace q21:=eq_true q21
        go_wp2_with (((with_reducible refine gate_builtin (b:=.append) (xs:=#[.tmp 67,.tmp 70]) rfl ?_);at_builtin;refine Kd.R_append Kd.string (w0:=w) w.heap.size rfl (.tmp 67) (.tmp 70) 22 9 (.string ⟨#[]⟩) 16 rfl Try.underlying22 info9 rfl (by decide) (by omega) u7 x7_3 ((rdOf ByteArray.empty ((rd_T41 l1 x9_1).f4) x10_3).extract 1 (rdOf ByteArray.empty ((rd_T41 l1 x9_1).f4) x10_3).size) [.string ((rdOf ByteArray.empty ((rd_T41 l1 x9_1).f4) x10_3).extract 1 (rdOf ByteArray.empty ((rd_T41 l1 x9_1).f4) x10_3).size)] (fun _=>True) (fun _=>False) rfl rfl ?aP (fun _ hk=>hk.elim) ?aF ?aO ?aB ?aS ?aL ?_;(case aP=>exact rfl);(case aB=>exact bel);(case aF=>exact (fun _ _=>trivial));(case aO=>exact (by (with_reducible repeat (first|apply Kd.R_alloc|apply Kd.R_drewN|apply Kd.R_drew));exact HO_7.out));(case aS=>exact (below_size bel));(case aL=>have:=LMc24.out;omega);intro v315 w25 ho hb hg hat;rw [← Ny314.out] at ho;have n0_:=Aside0.mk (hb);have n1_:=Aside0.mk (ho);clear HB;clear HO_7;have HB:=n0_;have HO316:=n1_;clear n0_ n1_;clear ho hb hg hat))
        go_roundg k3
        case measure=>have:=HK1.out;have:=HK2.out;have:=HK3.out;omega
        case rel=>exact ⟨(y314),(x8_3),(wrap64 (x10_3+1)),rx,rx,H',⟨by have:=HK1.out;have:=HK2.out;have:=HK3.out;omega⟩,⟨by (with_reducible repeat (first|apply Kd.R_alloc|apply Kd.R_drewN|apply Kd.R_drew));exact HO316.out⟩,⟨by repeat (first|(with_reducible first|exact HB.out|apply below_alloc|apply pw_below_drewN|apply below_drew1)|exact HB.out)⟩⟩
       rw [if_neg c22] at H
       have c22b0:((bt (rdOf ByteArray.empty ((rd_T41 l1 x9_1).f4) x10_3) 0) == 43)=false:=beq_eq_false_iff_ne.mpr c22
       have c22b1:((bt (rdOf ByteArray.empty ((rd_T41 l1 x9_1).f4) x10_3) 0) != 43)=true:=bne_iff_ne.mpr c22
       by_cases c26:x8_3 ≥ (l0.length:Int)
       ·rw [if_pos c26] at H
        have c26b0:decide ((l0.length:Int)≤x8_3)=true:=decide_eq_true c26
        clear c26
        simp only [Option.some.injEq,Prod.mk.injEq] at H
        obtain ⟨rfl,rfl⟩:=H
        have p311:0≤(x9_1:Int):=of_decide_eq_true asm
        have q311:x9_1<(l1.length:Int):=of_decide_eq_true asm
        obtain ⟨ad311,A311_4,c311_4,e311,hx311_0,hx311_1,hx311_2,hx311_3,hx311_4,hl311_4,hi311_4⟩:=at_T41 HR1.out x9_1 p311 q311
        obtain rfl:ad305=ad311:=(by injection e311)
        replace hx311_0:=pw_cell_below HB.out hx311_0
        replace hx311_1:=pw_cell_below HB.out hx311_1
        replace hx311_2:=pw_cell_below HB.out hx311_2
        replace hx311_3:=pw_cell_below HB.out hx311_3
        replace hx311_4:=pw_cell_below HB.out hx311_4
        have HR311_4:=Aside0.mk hi311_4
        have HC311_4:=Aside0.mk hl311_4
        clear hi311_4 hl311_4
        replace p311:=eq_true p311
        replace q311:=eq_true q311
        have p312:0≤(x9_1:Int):=of_decide_eq_true asm
        have q312:x9_1<(l1.length:Int):=of_decide_eq_true asm
        obtain ⟨ad312,A312_4,c312_4,e312,hx312_0,hx312_1,hx312_2,hx312_3,hx312_4,hl312_4,hi312_4⟩:=at_T41 HR1.out x9_1 p312 q312
        obtain rfl:ad305=ad312:=(by injection e312)
        replace hx312_0:=pw_cell_below HB.out hx312_0
        replace hx312_1:=pw_cell_below HB.out hx312_1
        replace hx312_2:=pw_cell_below HB.out hx312_2
        replace hx312_3:=pw_cell_below HB.out hx312_3
        replace hx312_4:=pw_cell_below HB.out hx312_4
        have HR312_4:=Aside0.mk hi312_4
        have HC312_4:=Aside0.mk hl312_4
        clear hi312_4 hl312_4
        replace p312:=eq_true p312
        replace q312:=eq_true q312
        have ea_:=Option.some.inj (hx311_4.symm.trans hx312_4)
        injection ea_ with ea_ en_ ec_
        subst ea_
        subst ec_
        clear en_
        have p313:0≤(x10_3:Int):=of_decide_eq_true asm
        have q313:x10_3<(((rd_T41 l1 x9_1).f4).length:Int):=of_decide_eq_true asm
        obtain ⟨ad313,e313,hx313_0⟩:=Kd.at_string HR312_4.out x10_3 p313 q313
        cases e313
        replace hx313_0:=pw_cell_below HB.out hx313_0
        replace p313:=eq_true p313
        replace q313:=eq_true q313
        have p21:0≤(0:Int):=(by omega)
        have q21:0<(rdOf ByteArray.empty ((rd_T41 l1 x9_1).f4) x10_3).size:=(by have:(0:Int)<((rdOf ByteArray.empty ((rd_T41 l1 x9_1).f4) x10_3).size:Int):=of_decide_eq_true asm;omega)
        have hx21:∀ h:0<(rdOf ByteArray.empty ((rd_T41 l1 x9_1).f4) x10_3).size,(((rdOf ByteArray.empty ((rd_T41 l1 x9_1).f4) x10_3)[0]'h).toNat:Int)=bt (rdOf ByteArray.empty ((rd_T41 l1 x9_1).f4) x10_3) 0:=bt_at (rdOf ByteArray.empty ((rd_T41 l1 x9_1).f4) x10_3) 0
        clear p21
        have qi21:(0<((rdOf ByteArray.empty ((rd_T41 l1 x9_1).f4) x10_3).size:Int))=True:=eq_true (of_decide_eq_true asm)
        replace q21:=eq_true q21
        go_wp2
        go_ret2
        exact ⟨_,by first|rfl|(simp [errW_none,errW_some]<;>rfl)|(simp [*,errW_none,errW_some]<;>rfl),by first|exact Kd.R_nil _ _ _ _ _|exact Kd.N_nil _ _ _ _ _|exact Kd.V_nil _ _ _ _ _|exact Kd.Q_nil _ _ _ _ _|exact Kd.S_nil _ _ _ _ _,bel⟩
       rw [if_neg c26] at H
       have c26b0:decide ((l0.length:Int)≤x8_3)=false:=decide_eq_false c26
       clear c26
       by_cases c27:0≤x8_3
       rotate_left
       ·rw [if_neg c27] at H
        exact absurd H (by simp)
       rw [if_pos c27] at H
       have c27b0:decide (0≤x8_3)=true:=decide_eq_true c27
       clear c27
       by_cases c28:x8_3<(l0.length:Int)
       rotate_left
       ·rw [if_neg c28] at H
        exact absurd H (by simp)
       rw [if_pos c28] at H
       have c28b0:decide (x8_3<(l0.length:Int))=true:=decide_eq_true c28
       clear c28
       by_cases c29:1≤((rdOf ByteArray.empty ((rd_T41 l1 x9_1).f4) x10_3).size:Int)
       rotate_left
       ·rw [if_neg c29] at H
        exact absurd H (by simp)
       rw [if_pos c29] at H
       have c29b0:=eq_true c29
       have c29b1:decide (1≤((rdOf ByteArray.empty ((rd_T41 l1 x9_1).f4) x10_3).size:Int))=true:=decide_eq_true c29
       clear c29
       by_cases c30:(rdOf ByteArray.empty l0 x8_3).toList=((rdOf ByteArray.empty ((rd_T41 l1 x9_1).f4) x10_3).extract 1 (rdOf ByteArray.empty ((rd_T41 l1 x9_1).f4) x10_3).size).toList
       rotate_left
       ·rw [if_neg c30] at H
        have c30b0:((rdOf ByteArray.empty l0 x8_3).toList == ((rdOf ByteArray.empty ((rd_T41 l1 x9_1).f4) x10_3).extract 1 (rdOf ByteArray.empty ((rd_T41 l1 x9_1).f4) x10_3).size).toList)=false:=beq_eq_false_iff_ne.mpr c30
        have c30b1:((rdOf ByteArray.empty l0 x8_3).toList != ((rdOf ByteArray.empty ((rd_T41 l1 x9_1).f4) x10_3).extract 1 (rdOf ByteArray.empty ((rd_T41 l1 x9_1).f4) x10_3).size).toList)=true:=bne_iff_ne.mpr c30
        simp only [Option.some.injEq,Prod.mk.injEq] at H
        obtain ⟨rfl,rfl⟩:=H
        have p311:0≤(x9_1:Int):=of_decide_eq_true asm
        have q311:x9_1<(l1.length:Int):=of_decide_eq_true asm
        obtain ⟨ad311,A311_4,c311_4,e311,hx311_0,hx311_1,hx311_2,hx311_3,hx311_4,hl311_4,hi311_4⟩:=at_T41 HR1.out x9_1 p311 q311
        obtain rfl:ad305=ad311:=(by injection e311)
        replace hx311_0:=pw_cell_below HB.out hx311_0
        replace hx311_1:=pw_cell_below HB.out hx311_1
        replace hx311_2:=pw_cell_below HB.out hx311_2
        replace hx311_3:=pw_cell_below HB.out hx311_3
        replace hx311_4:=pw_cell_below HB.out hx311_4
        have HR311_4:=Aside0.mk hi311_4
        have HC311_4:=Aside0.mk hl311_4
        clear hi311_4 hl311_4
        replace p311:=eq_true p311
        replace q311:=eq_true q311
        have p312:0≤(x9_1:Int):=of_decide_eq_true asm
        have q312:x9_1<(l1.length:Int):=of_decide_eq_true asm
        obtain ⟨ad312,A312_4,c312_4,e312,hx312_0,hx312_1,hx312_2,hx312_3,hx312_4,hl312_4,hi312_4⟩:=at_T41 HR1.out x9_1 p312 q312
        obtain rfl:ad305=ad312:=(by injection e312)
        replace hx312_0:=pw_cell_below HB.out hx312_0
        replace hx312_1:=pw_cell_below HB.out hx312_1
        replace hx312_2:=pw_cell_below HB.out hx312_2
        replace hx312_3:=pw_cell_below HB.out hx312_3
        replace hx312_4:=pw_cell_below HB.out hx312_4
        have HR312_4:=Aside0.mk hi312_4
        have HC312_4:=Aside0.mk hl312_4
        clear hi312_4 hl312_4
        replace p312:=eq_true p312
        replace q312:=eq_true q312
        have ea_:=Option.some.inj (hx311_4.symm.trans hx312_4)
        injection ea_ with ea_ en_ ec_
        subst ea_
        subst ec_
        clear en_
        have p313:0≤(x10_3:Int):=of_decide_eq_true asm
        have q313:x10_3<(((rd_T41 l1 x9_1).f4).length:Int):=of_decide_eq_true asm
        obtain ⟨ad313,e313,hx313_0⟩:=Kd.at_string HR312_4.out x10_3 p313 q313
        cases e313
        replace hx313_0:=pw_cell_below HB.out hx313_0
        replace p313:=eq_true p313
        replace q313:=eq_true q313
        have p21:0≤(0:Int):=(by omega)
        have q21:0<(rdOf ByteArray.empty ((rd_T41 l1 x9_1).f4) x10_3).size:=(by have:(0:Int)<((rdOf ByteArray.empty ((rd_T41 l1 x9_1).f4) x10_3).size:Int):=of_decide_eq_true asm;omega)
        have hx21:∀ h:0<(rdOf ByteArray.empty ((rd_T41 l1 x9_1).f4) x10_3).size,(((rdOf ByteArray.empty ((rd_T41 l1 x9_1).f4) x10_3)[0]'h).toNat:Int)=bt (rdOf ByteArray.empty ((rd_T41 l1 x9_1).f4) x10_3) 0:=bt_at (rdOf ByteArray.empty ((rd_T41 l1 x9_1).f4) x10_3) 0
        clear p21
        have qi21:(0<((rdOf ByteArray.empty ((rd_T41 l1 x9_1).f4) x10_3).size:Int))=True:=eq_true (of_decide_eq_true asm)
        replace q21:=eq_true q21
        have p317:0≤(x8_3:Int):=of_decide_eq_true asm
        have q317:x8_3<(l0.length:Int):=of_decide_eq_true asm
        obtain ⟨ad317,e317,hx317_0⟩:=Kd.at_string HR0.out x8_3 p317 q317
        cases e317
        replace hx317_0:=pw_cell_below HB.out hx317_0
        replace p317:=eq_true p317
        replace q317:=eq_true q317
        go_wp2
        repeat (go_quiet (fail);try go_wp2)
        go_ret2
        exact ⟨_,by first|rfl|(simp [errW_none,errW_some]<;>rfl)|(simp [*,errW_none,errW_some]<;>rfl),by first|exact Kd.R_nil _ _ _ _ _|exact Kd.N_nil _ _ _ _ _|exact Kd.V_nil _ _ _ _ _|exact Kd.Q_nil _ _ _ _ _|exact Kd.S_nil _ _ _ _ _,bel⟩
       rw [if_pos c30] at H
       have c30b0:((rdOf ByteArray.empty l0 x8_3).toList == ((rdOf ByteArray.empty ((rd_T41 l1 x9_1).f4) x10_3).extract 1 (rdOf ByteArray.empty ((rd_T41 l1 x9_1).f4) x10_3).size).toList)=true:=beq_iff_eq.mpr c30
       have c30b1:((rdOf ByteArray.empty l0 x8_3).toList != ((rdOf ByteArray.empty ((rd_T41 l1 x9_1).f4) x10_3).extract 1 (rdOf ByteArray.empty ((rd_T41 l1 x9_1).f4) x10_3).size).toList)=false:=bne_eq_false_iff_eq.mpr c30
       clear c30
       by_cases c32:(bt (rdOf ByteArray.empty ((rd_T41 l1 x9_1).f4) x10_3) 0)=32
       rotate_left
       ·rw [if_neg c32] at H
        have c32b0:((bt (rdOf ByteArray.empty ((rd_T41 l1 x9_1).f4) x10_3) 0) == 32)=false:=beq_eq_false_iff_ne.mpr c32
        have c32b1:((bt (rdOf ByteArray.empty ((rd_T41 l1 x9_1).f4) x10_3) 0) != 32)=true:=bne_iff_ne.mpr c32
        have H':=Aside0.mk H
        clear H
        have p311:0≤(x9_1:Int):=of_decide_eq_true asm
        have q311:x9_1<(l1.length:Int):=of_decide_eq_true asm
        obtain ⟨ad311,A311_4,c311_4,e311,hx311_0,hx311_1,hx311_2,hx311_3,hx311_4,hl311_4,hi311_4⟩:=at_T41 HR1.out x9_1 p311 q311
        obtain rfl:ad305=ad311:=(by injection e311)
        replace hx311_0:=pw_cell_below HB.out hx311_0
        replace hx311_1:=pw_cell_below HB.out hx311_1
        replace hx311_2:=pw_cell_below HB.out hx311_2
        replace hx311_3:=pw_cell_below HB.out hx311_3
        replace hx311_4:=pw_cell_below HB.out hx311_4
        have HR311_4:=Aside0.mk hi311_4
        have HC311_4:=Aside0.mk hl311_4
        clear hi311_4 hl311_4
        replace p311:=eq_true p311
        replace q311:=eq_true q311
        have p312:0≤(x9_1:Int):=of_decide_eq_true asm
        have q312:x9_1<(l1.length:Int):=of_decide_eq_true asm
        obtain ⟨ad312,A312_4,c312_4,e312,hx312_0,hx312_1,hx312_2,hx312_3,hx312_4,hl312_4,hi312_4⟩:=at_T41 HR1.out x9_1 p312 q312
        obtain rfl:ad305=ad312:=(by injection e312)
        replace hx312_0:=pw_cell_below HB.out hx312_0
        replace hx312_1:=pw_cell_below HB.out hx312_1
        replace hx312_2:=pw_cell_below HB.out hx312_2
        replace hx312_3:=pw_cell_below HB.out hx312_3
        replace hx312_4:=pw_cell_below HB.out hx312_4
        have HR312_4:=Aside0.mk hi312_4
        have HC312_4:=Aside0.mk hl312_4
        clear hi312_4 hl312_4
        replace p312:=eq_true p312
        replace q312:=eq_true q312
        have ea_:=Option.some.inj (hx311_4.symm.trans hx312_4)
        injection ea_ with ea_ en_ ec_
        subst ea_
        subst ec_
        clear en_
        have p313:0≤(x10_3:Int):=of_decide_eq_true asm
        have q313:x10_3<(((rd_T41 l1 x9_1).f4).length:Int):=of_decide_eq_true asm
        obtain ⟨ad313,e313,hx313_0⟩:=Kd.at_string HR312_4.out x10_3 p313 q313
        cases e313
        replace hx313_0:=pw_cell_below HB.out hx313_0
        replace p313:=eq_true p313
        replace q313:=eq_true q313
        have p21:0≤(0:Int):=(by omega)
        have q21:0<(rdOf ByteArray.empty ((rd_T41 l1 x9_1).f4) x10_3).size:=(by have:(0:Int)<((rdOf ByteArray.empty ((rd_T41 l1 x9_1).f4) x10_3).size:Int):=of_decide_eq_true asm;omega)
        have hx21:∀ h:0<(rdOf ByteArray.empty ((rd_T41 l1 x9_1).f4) x10_3).size,(((rdOf ByteArray.empty ((rd_T41 l1 x9_1).f4) x10_3)[0]'h).toNat:Int)=bt (rdOf ByteArray.empty ((rd_T41 l1 x9_1).f4) x10_3) 0:=bt_at (rdOf ByteArray.empty ((rd_T41 l1 x9_1).f4) x10_3) 0
        clear p21
        have qi21:(0<((rdOf ByteArray.empty ((rd_T41 l1 x9_1).f4) x10_3).size:Int))=True:=eq_true (of_decide_eq_true asm)
        replace q21:=eq_true q21
        have p317:0≤(x8_3:Int):=of_decide_eq_true asm
        have q317:x8_3<(l0.length:Int):=of_decide_eq_true asm
        obtain ⟨ad317,e317,hx317_0⟩:=Kd.at_string HR0.out x8_3 p317 q317
        cases e317
        replace hx317_0:=pw_cell_below HB.out hx317_0
        replace p317:=eq_true p317
        replace q317:=eq_true q317
        have p31:0≤(0:Int):=(by omega)
        have q31:0<(rdOf ByteArray.empty ((rd_T41 l1 x9_1).f4) x10_3).size:=(by have:(0:Int)<((rdOf ByteArray.empty ((rd_T41 l1 x9_1).f4) x10_3).size:Int):=of_decide_eq_true asm;omega)
        have hx31:∀ h:0<(rdOf ByteArray.empty ((rd_T41 l1 x9_1).f4) x10_3).size,(((rdOf ByteArray.empty ((rd_T41 l1 x9_1).f4) x10_3)[0]'h).toNat:Int)=bt (rdOf ByteArray.empty ((rd_T41 l1 x9_1).f4) x10_3) 0:=bt_at (rdOf ByteArray.empty ((rd_T41 l1 x9_1).f4) x10_3) 0
        clear p31
        have qi31:(0<((rdOf ByteArray.empty ((rd_T41 l1 x9_1).f4) x10_3).size:Int))=True:=eq_true (of_decide_eq_true asm)
        replace q31:=eq_true q31
        go_wp2
        repeat (go_quiet (fail);try go_wp2)
        go_roundg k3
        case measure=>have:=HK1.out;have:=HK2.out;have:=HK3.out;omega
        case rel=>exact ⟨(x7_3),(wrap64 (x8_3+1)),(wrap64 (x10_3+1)),rx,rx,H',⟨by have:=HK1.out;have:=HK2.out;have:=HK3.out;omega⟩,⟨by (with_reducible repeat (first|apply Kd.R_alloc|apply Kd.R_drewN|apply Kd.R_drew));exact HO_7.out⟩,⟨by repeat (first|(with_reducible first|exact HB.out|apply below_alloc|apply pw_below_drewN|apply below_drew1)|exact HB.out)⟩⟩
       rw [if_pos c32] at H
       have c32b0:((bt (rdOf ByteArray.empty ((rd_T41 l1 x9_1).f4) x10_3) 0) == 32)=true:=beq_iff_eq.mpr c32
       have c32b1:((bt (rdOf ByteArray.empty ((rd_T41 l1 x9_1).f4) x10_3) 0) != 32)=false:=bne_eq_false_iff_eq.mpr c32
       clear c32
       by_cases c33:x7_3.length<8796093022208
       rotate_left
       ·rw [if_neg c33] at H
        exact absurd H (by simp)
       rw [if_pos c33] at H
       have LMc33:=Aside0.mk c33
       clear c33
       obtain ⟨y319,hy319⟩:∃ y_:List ByteArray,y_=(x7_3++[rdOf ByteArray.empty l0 x8_3]):=⟨_,rfl⟩
       replace H:(r07_Apply.l2 k3 l0 l1 y319 (wrap64 (x8_3+1)) x9_1 (wrap64 (x10_3+1)))=some (r1,r2):=by first|(rw [hy319];with_reducible exact H)|(have H2_:=(Option.bind_some _ _).symm.trans H;rw [hy319];with_reducible exact H2_)|(have H2_:=(Option.bind_some _ _).symm.trans H;with_reducible exact H2_)|with_reducible exact H|(rw [hy319];exact H)|exact H
       have Ny319:=Aside0.mk hy319
       clear hy319
       have H':=Aside0.mk H
       clear H
       have p311:0≤(x9_1:Int):=of_decide_eq_true asm
       have q311:x9_1<(l1.length:Int):=of_decide_eq_true asm
       obtain ⟨ad311,A311_4,c311_4,e311,hx311_0,hx311_1,hx311_2,hx311_3,hx311_4,hl311_4,hi311_4⟩:=at_T41 HR1.out x9_1 p311 q311
       obtain rfl:ad305=ad311:=(by injection e311)
       replace hx311_0:=pw_cell_below HB.out hx311_0
       replace hx311_1:=pw_cell_below HB.out hx311_1
       replace hx311_2:=pw_cell_below HB.out hx311_2
       replace hx311_3:=pw_cell_below HB.out hx311_3
       replace hx311_4:=pw_cell_below HB.out hx311_4
       have HR311_4:=Aside0.mk hi311_4
       have HC311_4:=Aside0.mk hl311_4
       clear hi311_4 hl311_4
       replace p311:=eq_true p311
       replace q311:=eq_true q311
       have p312:0≤(x9_1:Int):=of_decide_eq_true asm
       have q312:x9_1<(l1.length:Int):=of_decide_eq_true asm
       obtain ⟨ad312,A312_4,c312_4,e312,hx312_0,hx312_1,hx312_2,hx312_3,hx312_4,hl312_4,hi312_4⟩:=at_T41 HR1.out x9_1 p312 q312
       obtain rfl:ad305=ad312:=(by injection e312)
       replace hx312_0:=pw_cell_below HB.out hx312_0
       replace hx312_1:=pw_cell_below HB.out hx312_1
       replace hx312_2:=pw_cell_below HB.out hx312_2
       replace hx312_3:=pw_cell_below HB.out hx312_3
       replace hx312_4:=pw_cell_below HB.out hx312_4
       have HR312_4:=Aside0.mk hi312_4
       have HC312_4:=Aside0.mk hl312_4
       clear hi312_4 hl312_4
       replace p312:=eq_true p312
       replace q312:=eq_true q312
       have ea_:=Option.some.inj (hx311_4.symm.trans hx312_4)
       injection ea_ with ea_ en_ ec_
       subst ea_
       subst ec_
       clear en_
       have p313:0≤(x10_3:Int):=of_decide_eq_true asm
       have q313:x10_3<(((rd_T41 l1 x9_1).f4).length:Int):=of_decide_eq_true asm
       obtain ⟨ad313,e313,hx313_0⟩:=Kd.at_string HR312_4.out x10_3 p313 q313
       cases e313
       replace hx313_0:=pw_cell_below HB.out hx313_0
       replace p313:=eq_true p313
       replace q313:=eq_true q313
       have p21:0≤(0:Int):=(by omega)
       have q21:0<(rdOf ByteArray.empty ((rd_T41 l1 x9_1).f4) x10_3).size:=(by have:(0:Int)<((rdOf ByteArray.empty ((rd_T41 l1 x9_1).f4) x10_3).size:Int):=of_decide_eq_true asm;omega)
       have hx21:∀ h:0<(rdOf ByteArray.empty ((rd_T41 l1 x9_1).f4) x10_3).size,(((rdOf ByteArray.empty ((rd_T41 l1 x9_1).f4) x10_3)[0]'h).toNat:Int)=bt (rdOf ByteArray.empty ((rd_T41 l1 x9_1).f4) x10_3) 0:=bt_at (rdOf ByteArray.empty ((rd_T41 l1 x9_1).f4) x10_3) 0
       clear p21
       have qi21:(0<((rdOf ByteArray.empty ((rd_T41 l1 x9_1).f4) x10_3).size:Int))=True:=eq_true (of_decide_eq_true asm)
       replace q21:=eq_true q21
       have p317:0≤(x8_3:Int):=of_decide_eq_true asm
       have q317:x8_3<(l0.length:Int):=of_decide_eq_true asm
       obtain ⟨ad317,e317,hx317_0⟩:=Kd.at_string HR0.out x8_3 p317 q317
       cases e317
       replace hx317_0:=pw_cell_below HB.out hx317_0
       replace p317:=eq_true p317
       replace q317:=eq_true q317
       have p31:0≤(0:Int):=(by omega)
       have q31:0<(rdOf ByteArray.empty ((rd_T41 l1 x9_1).f4) x10_3).size:=(by have:(0:Int)<((rdOf ByteArray.empty ((rd_T41 l1 x9_1).f4) x10_3).size:Int):=of_decide_eq_true asm;omega)
       have hx31:∀ h:0<(rdOf ByteArray.empty ((rd_T41 l1 x9_1).f4) x10_3).size,(((rdOf ByteArray.empty ((rd_T41 l1 x9_1).f4) x10_3)[0]'h).toNat:Int)=bt (rdOf ByteArray.empty ((rd_T41 l1 x9_1).f4) x10_3) 0:=bt_at (rdOf ByteArray.empty ((rd_T41 l1 x9_1).f4) x10_3) 0
       clear p31
       have qi31:(0<((rdOf ByteArray.empty ((rd_T41 l1 x9_1).f4) x10_3).size:Int))=True:=eq_true (of_decide_eq_true asm)
       replace q31:=eq_true q31
       have p318:0≤(x8_3:Int):=of_decide_eq_true asm
       have q318:x8_3<(l0.length:Int):=of_decide_eq_true asm
       obtain ⟨ad318,e318,hx318_0⟩:=Kd.at_string HR0.out x8_3 p318 q318
       obtain rfl:ad317=ad318:=(by injection e318)
       replace hx318_0:=pw_cell_below HB.out hx318_0
       replace p318:=eq_true p318
       replace q318:=eq_true q318
       go_wp2_with (fail)
       repeat (go_quiet (fail);try go_wp2_with (((with_reducible refine gate_builtin (b:=.append) (xs:=#[.tmp 86,.tmp 91]) rfl ?_);at_builtin;refine Kd.R_append Kd.string (w0:=w) w.heap.size rfl (.tmp 86) (.tmp 91) 22 9 (.string ⟨#[]⟩) 16 rfl Try.underlying22 info9 rfl (by decide) (by omega) u7 x7_3 (rdOf ByteArray.empty l0 x8_3) [.string (rdOf ByteArray.empty l0 x8_3)] (fun _=>True) (fun _=>False) rfl rfl ?aP (fun _ hk=>hk.elim) ?aF ?aO ?aB ?aS ?aL ?_;(case aP=>exact rfl);(case aB=>exact bel);(case aF=>exact (fun _ _=>trivial));(case aO=>exact (by (with_reducible repeat (first|apply Kd.R_alloc|apply Kd.R_drewN|apply Kd.R_drew));exact HO_7.out));(case aS=>exact (below_size bel));(case aL=>have:=LMc33.out;omega);intro v320 w34 ho hb hg hat;rw [← Ny319.out] at ho;have n0_:=Aside0.mk (hb);have n1_:=Aside0.mk (ho);clear HB;clear HO_7;have HB:=n0_;have HO321:=n1_;clear n0_ n1_;clear ho hb hg hat)))
       go_roundg k3
       case measure=>have:=HK1.out;have:=HK2.out;have:=HK3.out;omega
       case rel=>exact ⟨(y319),(wrap64 (x8_3+1)),(wrap64 (x10_3+1)),rx,rx,H',⟨by have:=HK1.out;have:=HK2.out;have:=HK3.out;omega⟩,⟨by (with_reducible repeat (first|apply Kd.R_alloc|apply Kd.R_drewN|apply Kd.R_drew));exact HO321.out⟩,⟨by repeat (first|(with_reducible first|exact HB.out|apply below_alloc|apply pw_below_drewN|apply below_drew1)|exact HB.out)⟩⟩
end Go.Proofs.Ytoaijganmfijmaa.Pr
-- shrunk
/-
The document's answer for layer 7: hunks that are right, and what they make of lines, in plain Lean.
-/
namespace Go.Proofs.Ytoaijganmfijmaa.Pr
open Go.RowKit Go.Proofs.YtoaijganmfijmaaW.PrintWords Go.Proofs.YtoaijganmfijmaaW.PrintLast Go.Proofs.YtoaijganmfijmaaW.PrintMore
def moreH:List Hk→Int
 | []=>0
 | h :: l=>(h.f3 - h.f1)+moreH l
theorem moreH_app:∀ (x y:List Hk),moreH (x++y)=moreH x+moreH y
 | [],y=>by simp [moreH]
 | h :: x,y=>by rw [List.cons_append,moreH,moreH,moreH_app x y];omega
theorem moreH_le:∀ (l:List Hk),(∀ h ∈ l,FewH h) → -(2097152 * (l.length:Int))≤moreH l∧moreH l≤2097152 * (l.length:Int)
 | [],_=>by simp [moreH]
 | h :: l,hf=>by
  have ih:=moreH_le l (fun x hx=>hf x (List.mem_cons_of_mem _ hx))
  obtain ⟨h1,h2,h3,h4,h5,h6,h7,h8,h9⟩:=hf h List.mem_cons_self
  rw [moreH,List.length_cons]
  push_cast
  omega
theorem RSum_l1 (l:List Hk) (hf:∀ h ∈ l,FewH h) (hn:l.length≤12) (i:Nat) (hi:i<l.length) (r:Bool) (A:Int) (hA0:-1048576≤A) (hA1:A≤1048576)
  (rest:Ev (fun k=>r07_Right.l1 k l (i:Int) (A+moreH (l.take i)) (i:Int)) r) :
  ∀ d j,i - j=d→j≤i→Ev (fun k=>r07_Right.l1 k l (i:Int) (A+moreH (l.take j)) (j:Int)) r:=by
 intro d
 induction d with
 | zero =>
  intro j hd hj
  have:j=i:=by omega
  subst this
  exact rest
 | succ d ih =>
  intro j hd hj
  have hlt:j<l.length:=by omega
  have hm:=moreH_le (l.take j) (fun h hh=>hf h (List.mem_of_mem_take hh))
  have hlt2:(l.take j).length=j:=by rw [List.length_take];omega
  rw [hlt2] at hm
  obtain ⟨h1,h2,h3,h4,h5,h6,h7,h8,h9⟩:=hf l[j] (List.getElem_mem hlt)
  refine Ev.step (fun _=>r07_Right.l1.eq_2 ..) ?_
  simp only [if_pos (show (j:Int)<(i:Int) by omega),if_pos (show (0:Int)≤(j:Int) by omega),if_pos (show (j:Int)<(l.length:Int) by omega),rdH_at hlt,w_succ hlt (show l.length≤4611686018427387904 by omega)]
  have e:wrap64 (wrap64 (A+moreH (l.take j)+l[j].f3) - l[j].f1)=A+moreH (l.take (j+1)):=by
   rw [List.take_succ_eq_append_getElem hlt,moreH_app,moreH,moreH]
   unfold wrap64;omega
  rw [e]
  exact ih (j+1) (by omega) (by omega)
theorem RRightH_l0 (l:List Hk) (hf:∀ h ∈ l,FewH h) (hn:l.length≤12):∀ (d i:Nat) (en:Int),l.length - i=d→i≤l.length→(i=0→en=0)→(∀ (h:i - 1<l.length),0<i→en=l[i - 1].f0+l[i - 1].f1) →
  Ev (fun k=>r07_Right.l0 k l (i:Int)) (rightP en (moreH (l.take i)) (l.drop i)):=by
 intro d
 induction d with
 | zero =>
  intro i en hd hi he0 he1
  refine Ev.step (fun _=>r07_Right.l0.eq_2 ..) ?_
  simp only [if_neg (show ¬ (i:Int)<(l.length:Int) by omega)]
  rw [List.drop_of_length_le (by omega)]
  exact Ev.now _
 | succ d ih =>
  intro i en hd hi he0 he1
  have hlt:i<l.length:=by omega
  have hw:=w_succ hlt (show l.length≤4611686018427387904 by omega)
  obtain ⟨h1,h2,h3,h4,h5,h6,h7,h8,h9⟩:=hf l[i] (List.getElem_mem hlt)
  have hm:=moreH_le (l.take i) (fun h hh=>hf h (List.mem_of_mem_take hh))
  have hlt2:(l.take i).length=i:=by rw [List.length_take];omega
  rw [hlt2] at hm
  have ih2:=ih (i+1) (l[i].f0+l[i].f1) (by omega) (by omega) (fun h=>by omega) (fun h h0=>by simp only [Nat.add_sub_cancel])
  refine Ev.step (fun _=>r07_Right.l0.eq_2 ..) ?_
  simp only [if_pos (show (i:Int)<(l.length:Int) by omega),if_pos (show (0:Int)≤(i:Int) by omega),rdH_at hlt]
  refine Ev.bind (RHRight_ev l[i].f0 l[i].f1 l[i].f2 l[i].f3 l[i].f4 (by omega)) ?_
  rw [List.drop_eq_getElem_cons hlt,rightP]
  cases hr:rightL l[i].f0 l[i].f1 l[i].f2 l[i].f3 l[i].f4 with
  | false =>
   simp only [Bool.false_and,Bool.false_eq_true,if_false]
   exact Ev.now _
  | true =>
   have hz:=rightL_size hr
   simp only [Bool.true_and,if_true]
   have h0:=RSum_l1 l hf hn i hlt (decide (en≤l[i].f0) && decide (l[i].f2=l[i].f0+moreH (l.take i)) && rightP (l[i].f0+l[i].f1) (moreH (l.take i)+l[i].f3 - l[i].f1) (l.drop (i+1))) l[i].f0 (by omega) (by omega) ?_ i 0 (by omega) (by omega)
   ·simpa [moreH] using h0
   refine Ev.step (fun _=>r07_Right.l1.eq_2 ..) ?_
   simp only [if_neg (show ¬ (i:Int)<(i:Int) by omega),if_pos (show (0:Int)≤(i:Int) by omega),if_pos (show (i:Int)<(l.length:Int) by omega),rdH_at hlt,hw]
   have e:moreH (l.take i)+l[i].f3 - l[i].f1=moreH (l.take (i+1)):=by
    rw [List.take_succ_eq_append_getElem hlt,moreH_app,moreH,moreH];omega
   rw [e]
   by_cases c2:l[i].f2=l[i].f0+moreH (l.take i)
   rotate_left
   ·simp only [if_neg c2]
    rw [decide_eq_false c2,Bool.and_false,Bool.false_and]
    exact Ev.now _
   simp only [if_pos c2]
   rw [decide_eq_true c2,Bool.and_true]
   by_cases c3:(i:Int) > 0
   rotate_left
   ·simp only [if_neg c3]
    have:=he0 (by omega)
    rw [decide_eq_true (show en≤l[i].f0 by omega),Bool.true_and]
    exact ih2
   simp only [if_pos c3]
   have hp:i - 1<l.length:=by omega
   have hwp:wrap64 ((i:Int) - 1)=((i - 1:Nat):Int):=by unfold wrap64;omega
   have hep:=he1 hp (by omega)
   obtain ⟨g1,g2,g3,g4,g5,g6,g7,g8,g9⟩:=hf l[i - 1] (List.getElem_mem hp)
   simp only [hwp,if_pos (show (0:Int)≤((i - 1:Nat):Int) by omega),if_pos (show ((i - 1:Nat):Int)<(l.length:Int) by omega),rdH_at hp]
   rw [show wrap64 (l[i - 1].f0+l[i - 1].f1)=en by rw [hep];unfold wrap64;omega]
   by_cases c4:l[i].f0<en
   ·simp only [if_pos c4]
    rw [decide_eq_false (by omega),Bool.false_and]
    exact Ev.now _
   simp only [if_neg c4]
   rw [decide_eq_true (show en≤l[i].f0 by omega),Bool.true_and]
   exact ih2
theorem RRightH_ev {l:List Hk} (h:fewL l=true):Ev (fun k=>r07_Right.f k l) (rightP 0 0 l):=by
 have hf:=fewL_of h
 have h0:=RRightH_l0 l hf.1 hf.2 _ 0 0 rfl (by omega) (fun _=>rfl) (fun _ h=>by omega)
 exact h0
theorem bits_eq (x y:ByteArray):x.toList=y.toList ↔ x=y:=toList_iff x y
theorem RApply_l3 (a:List ByteArray) (ha:a.length≤65536):∀ (d t:Nat) (out:List ByteArray),a.length - t=d→t≤a.length→out.length≤536870912+t→Ev (fun k=>r07_Apply.l3 k a out (t:Int)) (out++a.drop t,0):=by
 intro d
 induction d with
 | zero =>
  intro t out hd ht ho
  refine Ev.step (fun _=>r07_Apply.l3.eq_2 ..) ?_
  simp only [if_neg (show ¬ (t:Int)<(a.length:Int) by omega)]
  rw [List.drop_of_length_le (by omega),List.append_nil]
  exact Ev.now _
 | succ d ih =>
  intro t out hd ht ho
  have hlt:t<a.length:=by omega
  refine Ev.step (fun _=>r07_Apply.l3.eq_2 ..) ?_
  simp only [if_pos (show (t:Int)<(a.length:Int) by omega),if_pos (show (0:Int)≤(t:Int) by omega),if_pos (show out.length<8796093022208 by omega),rdS_at hlt,w_succ hlt (show a.length≤4611686018427387904 by omega)]
  have h:=ih (t+1) (out++[a[t]]) (by omega) (by omega) (by rw [List.length_append,List.length_singleton];omega)
  rw [List.append_assoc,List.singleton_append,← List.drop_eq_getElem_cons hlt] at h
  exact h
theorem RApply_l1 (a:List ByteArray) (ha:a.length≤65536) (l:List Hk) (i A:Nat) (hi:i<l.length) (hA:l[i].f0=(A:Int)) (hAl:A≤a.length) (r:List ByteArray × Int) (out:List ByteArray) (t0:Nat) (ht0:t0≤A) (ho:out.length≤536870912)
  (rest:Ev (fun k=>r07_Apply.l2 k a l (out++(a.take A).drop t0) (A:Int) (i:Int) 0) r) :
  ∀ (d t:Nat),A - t=d→t0≤t→t≤A→Ev (fun k=>r07_Apply.l1 k a l (out++(a.take t).drop t0) (t:Int) (i:Int)) r:=by
 intro d
 induction d with
 | zero =>
  intro t hd h0 ht
  have:t=A:=by omega
  subst this
  refine Ev.step (fun _=>r07_Apply.l1.eq_2 ..) ?_
  simp only [if_pos (show (0:Int)≤(i:Int) by omega),if_pos (show (i:Int)<(l.length:Int) by omega),rdH_at hi,hA,if_neg (show ¬ (t:Int)<(t:Int) by omega)]
  exact rest
 | succ d ih =>
  intro t hd h0 ht
  have hlt:t<a.length:=by omega
  have hol:(out++(a.take t).drop t0).length<8796093022208:=by rw [List.length_append,List.length_drop,List.length_take];omega
  refine Ev.step (fun _=>r07_Apply.l1.eq_2 ..) ?_
  simp only [if_pos (show (0:Int)≤(i:Int) by omega),if_pos (show (i:Int)<(l.length:Int) by omega),rdH_at hi,hA,if_pos (show (t:Int)<(A:Int) by omega),if_pos (show (0:Int)≤(t:Int) by omega),if_pos (show (t:Int)<(a.length:Int) by omega),if_pos hol,rdS_at hlt,w_succ hlt (show a.length≤4611686018427387904 by omega)]
  have h:=ih (t+1) (by omega) (by omega) (by omega)
  have e:out++(a.take t).drop t0++[a[t]]=out++(a.take (t+1)).drop t0:=by
   rw [List.append_assoc,List.take_succ_eq_append_getElem hlt,List.drop_append_of_le_length (by rw [List.length_take];omega)]
  rw [e]
  exact h
theorem RApply_l2 (a:List ByteArray) (ha:a.length≤65536) (l:List Hk) (i:Nat) (hi:i<l.length) (L:List ByteArray) (hL:l[i].f4=L) (hLn:L.length≤65536) (hnn:l.length≤1024) (r:List ByteArray × Int) :
  ∀ (d j t:Nat) (out:List ByteArray) (came:Bool),L.length - j=d→j≤L.length→t≤a.length→out.length+(L.length - j)≤1073741824→okL came (L.drop j)=true →
   (match lineP a t out (L.drop j) with|none=>r=([],6)|some (o,p)=>Ev (fun k=>r07_Apply.l0 k a l o (p:Int) ((i+1:Nat):Int)) r) →
   Ev (fun k=>r07_Apply.l2 k a l out (t:Int) (i:Int) (j:Int)) r:=by
 intro d
 induction d with
 | zero =>
  intro j t out came hd hj ht ho hok h
  rw [List.drop_of_length_le (by omega),lineP] at h
  refine Ev.step (fun _=>r07_Apply.l2.eq_2 ..) ?_
  simp only [if_pos (show (0:Int)≤(i:Int) by omega),if_pos (show (i:Int)<(l.length:Int) by omega),rdH_at hi,hL,if_neg (show ¬ (j:Int)<(L.length:Int) by omega),w_succ hi (show l.length≤4611686018427387904 by omega)]
  exact h
 | succ d ih =>
  intro j t out came hd hj ht ho hok h
  have hlt:j<L.length:=by omega
  rw [List.drop_eq_getElem_cons hlt] at h hok
  rw [okL,Bool.and_eq_true,decide_eq_true_eq] at hok
  obtain ⟨⟨hsz,hb,_⟩,hok2⟩:=hok
  rw [lineP] at h
  refine Ev.step (fun _=>r07_Apply.l2.eq_2 ..) ?_
  simp only [if_pos (show (0:Int)≤(i:Int) by omega),if_pos (show (i:Int)<(l.length:Int) by omega),rdH_at hi,hL,if_pos (show (j:Int)<(L.length:Int) by omega),if_pos (show (0:Int)≤(j:Int) by omega),rdS_at hlt,w_succ hlt (show L.length≤4611686018427387904 by omega)]
  generalize L[j]=s at h hb hsz hok2 ⊢
  simp only [if_pos (show 0<(s.size:Int) by omega),if_pos (show 1≤(s.size:Int) by omega)]
  by_cases c1:bt s 0=43
  ·simp only [if_pos c1,if_pos (show out.length<8796093022208 by omega)]
   rw [if_pos c1] at h
   exact ih (j+1) t (out++[tl s]) _ (by omega) (by omega) ht (by rw [List.length_append,List.length_singleton];omega) hok2 h
  simp only [if_neg c1]
  rw [if_neg c1] at h
  by_cases c2:(t:Int) ≥ (a.length:Int)
  ·simp only [if_pos c2]
   rw [if_neg (by rw [List.getElem?_eq_none (by omega)];simp)] at h
   have h':r=([],6):=h
   rw [h']
   exact Ev.now _
  have hta:t<a.length:=by omega
  simp only [if_neg c2,if_pos (show (0:Int)≤(t:Int) by omega),if_pos (show (t:Int)<(a.length:Int) by omega),rdS_at hta,bits_eq,w_succ hta (show a.length≤4611686018427387904 by omega)]
  by_cases c3:a[t]=tl s
  rotate_left
  ·rw [if_neg (by rw [List.getElem?_eq_getElem hta];exact fun he=>c3 (Option.some.inj he))] at h
   simp only [if_neg (show ¬ a[t]=s.extract 1 s.size from c3)]
   have h':r=([],6):=h
   rw [h']
   exact Ev.now _
  rw [if_pos (by rw [List.getElem?_eq_getElem hta,c3])] at h
  simp only [if_pos (show a[t]=s.extract 1 s.size from c3)]
  by_cases c4:bt s 0=32
  ·rw [if_neg (by omega)] at h
   simp only [if_pos c4,if_pos (show out.length<8796093022208 by omega)]
   rw [c3]
   exact ih (j+1) (t+1) (out++[tl s]) _ (by omega) (by omega) (by omega) (by rw [List.length_append,List.length_singleton];omega) hok2 h
  rw [if_pos (by omega)] at h
  simp only [if_neg c4]
  exact ih (j+1) (t+1) out _ (by omega) (by omega) (by omega) (by omega) hok2 h
theorem RApply_l0 (a:List ByteArray) (ha:a.length≤65536) (l:List Hk) (hs:SmallA a l):∀ (d i t:Nat) (out:List ByteArray) (more:Int),l.length - i=d→i≤l.length→t≤a.length→rightP (t:Int) more (l.drop i)=true→out.length≤i * 131072+t →
  Ev (fun k=>r07_Apply.l0 k a l out (t:Int) (i:Int)) (match allP a t out (l.drop i) with|none=>([],6)|some (o,p)=>(o++a.drop p,0)):=by
 intro d
 induction d with
 | zero =>
  intro i t out more hd hi ht hr ho
  have:=hs.2.1
  rw [List.drop_of_length_le (by omega),allP]
  refine Ev.step (fun _=>r07_Apply.l0.eq_2 ..) ?_
  simp only [if_neg (show ¬ (i:Int)<(l.length:Int) by omega)]
  exact RApply_l3 a ha _ t out rfl ht (by omega)
 | succ d ih =>
  intro i t out more hd hi ht hr ho
  have hlt:i<l.length:=by omega
  have hnn:=hs.2.1
  have hsm:=hs.2.2 l[i] (List.getElem_mem hlt)
  rw [List.drop_eq_getElem_cons hlt] at hr ⊢
  rw [rightP,Bool.and_eq_true,Bool.and_eq_true,Bool.and_eq_true,decide_eq_true_eq] at hr
  obtain ⟨⟨⟨hr1,hr2⟩,_⟩,hr4⟩:=hr
  have hz:=rightL_size hr1
  refine Ev.step (fun _=>r07_Apply.l0.eq_2 ..) ?_
  simp only [if_pos (show (i:Int)<(l.length:Int) by omega),if_pos (show (0:Int)≤(i:Int) by omega),rdH_at hlt]
  rw [allP]
  by_cases c:l[i].f0 > (a.length:Int)
  ·have e:oneP a t l[i].f0 l[i].f4 out=none:=by rw [oneP,if_neg (by omega)]
   simp only [if_pos c,e]
   exact Ev.now _
  simp only [if_neg c]
  obtain ⟨A,hA⟩:∃ A:Nat,l[i].f0=(A:Int):=⟨l[i].f0.toNat,by omega⟩
  have hone:oneP a t l[i].f0 l[i].f4 out=lineP a A (out++(a.take A).drop t) l[i].f4:=by
   rw [hA,oneP,if_pos (by omega),Int.toNat_natCast]
  have hokl:okL false l[i].f4=true:=by
   have:=hr1
   unfold rightL at this
   rw [decide_eq_true_eq] at this
   exact this.1
  have h0:=RApply_l1 a ha l i A hlt hA (by omega) (match oneP a t l[i].f0 l[i].f4 out with|none=>([],6)|some (o,p)=>match allP a p o (l.drop (i+1)) with|none=>([],6)|some (o,p)=>(o++a.drop p,0)) out t (by omega) (by omega) ?_ _ t rfl (Nat.le_refl _) (by omega)
  ·rw [show out++(a.take t).drop t=out by rw [List.drop_of_length_le (by rw [List.length_take];omega),List.append_nil]] at h0
   cases e:oneP a t l[i].f0 l[i].f4 out with
   | none=>rw [e] at h0;exact h0
   | some q=>rw [e] at h0;exact h0
  refine RApply_l2 a ha l i hlt l[i].f4 rfl (by omega) hnn _ _ 0 A (out++(a.take A).drop t) false rfl (by omega) (by omega) (by rw [List.length_append,List.length_drop,List.length_take];omega) (by rw [List.drop_zero];exact hokl) ?_
  rw [List.drop_zero,← hone]
  cases e:oneP a t l[i].f0 l[i].f4 out with
  | none=>rfl
  | some q =>
   obtain ⟨o,p⟩:=q
   have hp:=oneP_some hr1 e
   have hin:=lineP_le a l[i].f4 A (out++(a.take A).drop t) o p (by omega) (by rw [← hone];exact e)
   have hg:((a.take A).drop t).length=A - t:=by rw [List.length_drop,List.length_take];omega
   rw [List.length_append,hg] at hin
   exact ih (i+1) p o _ (by omega) (by omega) (by omega) (by rw [hp.1];exact hr4) (by omega)
theorem RApply_ev {a:List ByteArray} {l:List Hk} (ha:a.length≤65536) (h:fewL l=true):Ev (fun k=>r07_Apply.f k a l) (applyP a l):=by
 unfold r07_Apply.f
 refine Ev.bind (RRightH_ev h) ?_
 unfold applyP
 cases hr:rightP 0 0 l with
 | false =>
  simp only [Bool.false_eq_true,if_false]
  exact Ev.now _
 | true =>
  simp only [if_true]
  have h0:=RApply_l0 a ha l (fewL_small ha h) _ 0 0 [] 0 rfl (by omega) (by omega) (by simpa using hr) (by simp)
  exact h0
end Go.Proofs.Ytoaijganmfijmaa.Pr
-- shrunk
/-
What the document's Turn and Edits make of the blocks of a hunk: the same as package hunk's.
-/
namespace Go.Proofs.Ytoaijganmfijmaa.Pr
open Go.RowKit Go.Proofs.YtoaijganmfijmaaW.PrintWords Go.Proofs.YtoaijganmfijmaaW.PrintLast Go.Proofs.YtoaijganmfijmaaW.PrintMore
def n32:List ByteArray→Nat
 | []=>0
 | s :: l=>if bt s 0=32 then 0 else n32 l+1
theorem n32_le:∀ l,n32 l≤l.length
 | []=>Nat.le_refl _
 | s :: l=>by have:=n32_le l;simp only [n32,List.length_cons];split<;>omega
def plusT:List ByteArray→List ByteArray
 | []=>[]
 | s :: l=>if bt s 0=43 then sg 45 (tl s) :: plusT l else plusT l
def minusT:List ByteArray→List ByteArray
 | []=>[]
 | s :: l=>if bt s 0=45 then sg 43 (tl s) :: minusT l else minusT l
theorem plusT_len:∀ l,(plusT l).length≤l.length
 | []=>Nat.le_refl _
 | s :: l=>by have:=plusT_len l;simp only [plusT];split<;>simp only [List.length_cons]<;>omega
theorem T_l1 (a0 a1 a2 a3 b0 b1 b2 b3:Int) (l out:List ByteArray) (r:Int × Int × Int × Int × List ByteArray) (i:Nat) (hs:∀ s ∈ l,1≤s.size) (hn:l.length≤1099511627776) :
  ∀ (d j:Nat),l.length - j=d→j≤l.length→Ev (fun k=>r05_Turn.j2 k (i:Int) ((j+n32 (l.drop j):Nat):Int) a0 a1 a2 a3 l b0 b1 b2 b3 out) r →
  Ev (fun k=>r05_Turn.l1 k (i:Int) (j:Int) a0 a1 a2 a3 l b0 b1 b2 b3 out) r:=by
 intro d
 induction d with
 | zero =>
  intro j hd hj rest
  refine Ev.step (fun _=>r05_Turn.l1.eq_2 ..) ?_
  simp only [if_neg (show ¬ (j:Int)<(l.length:Int) by omega)]
  rw [List.drop_of_length_le (by omega)] at rest
  exact rest
 | succ d ih =>
  intro j hd hj rest
  refine Ev.step (fun _=>r05_Turn.l1.eq_2 ..) ?_
  have h0:j<l.length:=by omega
  have hz:=hs _ (List.getElem_mem h0)
  rw [List.drop_eq_getElem_cons h0,n32] at rest
  simp only [if_pos (show (j:Int)<(l.length:Int) by omega),if_pos (show 0≤(j:Int) by omega),rdS_at h0,w_succ h0 (show l.length≤4611686018427387904 by omega),if_pos (show (0:Int)<(l[j].size:Int) by omega)]
  by_cases b:bt l[j] 0=32
  ·simp only [if_pos b]
   rw [if_pos b] at rest
   exact rest
  simp only [if_neg b]
  rw [if_neg b,show j+(n32 (l.drop (j+1))+1)=j+1+n32 (l.drop (j+1)) by omega] at rest
  exact ih (j+1) (by omega) (by omega) rest
theorem T_l2 (a0 a1 a2 a3 b0 b1 b2 b3:Int) (l:List ByteArray) (r:Int × Int × Int × Int × List ByteArray) (i e:Nat) (he:e≤l.length) (hs:∀ s ∈ l,1≤s.size∧s.size≤4611686018427387904) (hn:l.length≤1099511627776) :
  ∀ (d j:Nat) (out:List ByteArray),e - j=d→j≤e→out.length+(e - j)≤4398046511104→Ev (fun k=>r05_Turn.l3 k (e:Int) (i:Int) a0 a1 a2 a3 l b0 b1 b2 b3 (out++plusT ((l.take e).drop j))) r →
  Ev (fun k=>r05_Turn.l2 k (i:Int) (e:Int) (j:Int) a0 a1 a2 a3 l b0 b1 b2 b3 out) r:=by
 intro d
 induction d with
 | zero =>
  intro j out hd hj ho rest
  refine Ev.step (fun _=>r05_Turn.l2.eq_2 ..) ?_
  simp only [if_neg (show ¬ (j:Int)<(e:Int) by omega)]
  rw [List.drop_of_length_le (by rw [List.length_take];omega),plusT,List.append_nil] at rest
  exact rest
 | succ d ih =>
  intro j out hd hj ho rest
  refine Ev.step (fun _=>r05_Turn.l2.eq_2 ..) ?_
  have h0:j<l.length:=by omega
  have hz:=hs _ (List.getElem_mem h0)
  have hj2:j<(l.take e).length:=by rw [List.length_take];omega
  rw [List.drop_eq_getElem_cons hj2,plusT,List.getElem_take] at rest
  have hsz:1+(l[j].extract 1 l[j].size).size≤9223372036854775807:=by rw [ByteArray.size_extract];omega
  simp only [if_pos (show (j:Int)<(e:Int) by omega),if_pos (show 0≤(j:Int) by omega),if_pos (show (j:Int)<(l.length:Int) by omega),rdS_at h0,w_succ h0 (show l.length≤4611686018427387904 by omega),if_pos (show (0:Int)<(l[j].size:Int) by omega),if_pos (show (1:Int)≤(l[j].size:Int) by omega),if_pos hsz,if_pos (show out.length<8796093022208 by omega)]
  by_cases b:bt l[j] 0=43
  ·simp only [if_pos b]
   rw [if_pos b] at rest
   refine ih (j+1) _ (by omega) (by omega) (by rw [List.length_append,List.length_singleton];omega) ?_
   rw [List.append_assoc]
   exact rest
  simp only [if_neg b]
  rw [if_neg b] at rest
  exact ih (j+1) out (by omega) (by omega) (by omega) rest
theorem T_l3 (a0 a1 a2 a3 b0 b1 b2 b3:Int) (l:List ByteArray) (r:Int × Int × Int × Int × List ByteArray) (e:Nat) (he:e≤l.length) (hs:∀ s ∈ l,1≤s.size∧s.size≤4611686018427387904) (hn:l.length≤1099511627776) :
  ∀ (d j:Nat) (out:List ByteArray),e - j=d→j≤e→out.length+(e - j)≤4398046511104→Ev (fun k=>r05_Turn.l0 k ((e+1:Nat):Int) a0 a1 a2 a3 l b0 b1 b2 b3 (out++(minusT ((l.take e).drop j)++(l.drop e).take 1))) r →
  Ev (fun k=>r05_Turn.l3 k (e:Int) (j:Int) a0 a1 a2 a3 l b0 b1 b2 b3 out) r:=by
 intro d
 induction d with
 | zero =>
  intro j out hd hj ho rest
  refine Ev.step (fun _=>r05_Turn.l3.eq_2 ..) ?_
  simp only [if_neg (show ¬ (j:Int)<(e:Int) by omega)]
  rw [List.drop_of_length_le (by rw [List.length_take];omega),minusT,List.nil_append] at rest
  have we:wrap64 ((e:Int)+1)=((e+1:Nat):Int):=by rw [w_in (by omega) (by omega)];rfl
  by_cases c:e<l.length
  ·simp only [if_pos (show (e:Int)<(l.length:Int) by omega),if_pos (show 0≤(e:Int) by omega),if_pos (show out.length<8796093022208 by omega),we,rdS_at c]
   rw [List.drop_eq_getElem_cons c] at rest
   exact rest
  simp only [if_neg (show ¬ (e:Int)<(l.length:Int) by omega),we]
  rw [List.drop_of_length_le (by omega),List.take_nil,List.append_nil] at rest
  exact rest
 | succ d ih =>
  intro j out hd hj ho rest
  refine Ev.step (fun _=>r05_Turn.l3.eq_2 ..) ?_
  have h0:j<l.length:=by omega
  have hz:=hs _ (List.getElem_mem h0)
  have hj2:j<(l.take e).length:=by rw [List.length_take];omega
  rw [List.drop_eq_getElem_cons hj2,minusT,List.getElem_take] at rest
  have hsz:1+(l[j].extract 1 l[j].size).size≤9223372036854775807:=by rw [ByteArray.size_extract];omega
  simp only [if_pos (show (j:Int)<(e:Int) by omega),if_pos (show 0≤(j:Int) by omega),if_pos (show (j:Int)<(l.length:Int) by omega),rdS_at h0,w_succ h0 (show l.length≤4611686018427387904 by omega),if_pos (show (0:Int)<(l[j].size:Int) by omega),if_pos (show (1:Int)≤(l[j].size:Int) by omega),if_pos hsz,if_pos (show out.length<8796093022208 by omega)]
  by_cases b:bt l[j] 0=45
  ·simp only [if_pos b]
   rw [if_pos b] at rest
   refine ih (j+1) _ (by omega) (by omega) (by rw [List.length_append,List.length_singleton];omega) ?_
   rw [List.append_assoc]
   exact rest
  simp only [if_neg b]
  rw [if_neg b] at rest
  exact ih (j+1) out (by omega) (by omega) (by omega) rest
theorem T_round (a0 a1 a2 a3 b0 b1 b2 b3:Int) (l:List ByteArray) (r:Int × Int × Int × Int × List ByteArray) (hs:∀ s ∈ l,1≤s.size∧s.size≤4611686018427387904) (hn:l.length≤1099511627776) (i:Nat) (hi:i<l.length) (out L:List ByteArray) (hL:l.drop i=L) (ho:out.length≤1099511627776)
  (rest:Ev (fun k=>r05_Turn.l0 k ((i+n32 L+1:Nat):Int) a0 a1 a2 a3 l b0 b1 b2 b3 (out++(plusT (L.take (n32 L))++(minusT (L.take (n32 L))++(L.drop (n32 L)).take 1)))) r) :
  Ev (fun k=>r05_Turn.l0 k (i:Int) a0 a1 a2 a3 l b0 b1 b2 b3 out) r:=by
 refine Ev.step (fun _=>r05_Turn.l0.eq_2 ..) ?_
 simp only [if_pos (show (i:Int)<(l.length:Int) by omega)]
 refine T_l1 a0 a1 a2 a3 b0 b1 b2 b3 l out r i (fun s h=>(hs s h).1) hn _ i rfl (by omega) ?_
 rw [hL]
 have hle:=n32_le L
 have hLl:=congrArg List.length hL
 rw [List.length_drop] at hLl
 refine Ev.step (fun _=>r05_Turn.j2.eq_2 ..) ?_
 have htk:(l.take (i+n32 L)).drop i=L.take (n32 L):=by
  rw [List.drop_take,hL,Nat.add_sub_cancel_left]
 refine T_l2 a0 a1 a2 a3 b0 b1 b2 b3 l r i (i+n32 L) (by omega) hs hn _ i out rfl (by omega) (by omega) ?_
 rw [htk]
 have hp:=plusT_len (L.take (n32 L))
 have hp2:(L.take (n32 L)).length≤L.length:=by rw [List.length_take];omega
 refine T_l3 a0 a1 a2 a3 b0 b1 b2 b3 l r (i+n32 L) (by omega) hs hn _ i _ rfl (by omega) (by rw [List.length_append];omega) ?_
 rw [htk,List.append_assoc,← List.drop_drop,hL]
 exact rest
theorem n32_sgs (c:UInt8) (hc:(c.toNat:Int)≠32):∀ (l R:List ByteArray),n32 (sgs c l++R)=l.length+n32 R
 | [],R=>by simp [sgs]
 | s :: l,R=>by
  have h:=n32_sgs c hc l R
  show n32 (sg c s :: (sgs c l++R))=_
  rw [n32,if_neg (by rw [sg_bt];exact hc),h,List.length_cons];omega
theorem plusT_app:∀ x y,plusT (x++y)=plusT x++plusT y
 | [],y=>rfl
 | s :: x,y=>by simp only [List.cons_append,plusT,plusT_app x y];split<;>rfl
theorem minusT_app:∀ x y,minusT (x++y)=minusT x++minusT y
 | [],y=>rfl
 | s :: x,y=>by simp only [List.cons_append,minusT,minusT_app x y];split<;>rfl
theorem plusT_43:∀ l,plusT (sgs 43 l)=sgs 45 l
 | []=>rfl
 | s :: l=>by show plusT (sg 43 s :: sgs 43 l)=_;rw [plusT,if_pos (by rw [sg_bt];rfl),tl_sg,plusT_43 l];rfl
theorem plusT_45:∀ l,plusT (sgs 45 l)=[]
 | []=>rfl
 | s :: l=>by show plusT (sg 45 s :: sgs 45 l)=_;rw [plusT,if_neg (by rw [sg_bt];decide),plusT_45 l]
theorem minusT_45:∀ l,minusT (sgs 45 l)=sgs 43 l
 | []=>rfl
 | s :: l=>by show minusT (sg 45 s :: sgs 45 l)=_;rw [minusT,if_pos (by rw [sg_bt];rfl),tl_sg,minusT_45 l];rfl
theorem minusT_43:∀ l,minusT (sgs 43 l)=[]
 | []=>rfl
 | s :: l=>by show minusT (sg 43 s :: sgs 43 l)=_;rw [minusT,if_neg (by rw [sg_bt];decide),minusT_43 l]
theorem blk_head:∀ (bs:List Blk) (t:List ByteArray),BOk false bs→(blkLines bs t=[]∧blkLines (bs.map swapB) t=[]) ∨
  ∃ (x:ByteArray) (bs':List Blk) (t':List ByteArray),blkLines bs t=sg 32 x :: blkLines bs' t'∧BOk true bs'∧blkLines (bs.map swapB) t=sg 32 x :: blkLines (bs'.map swapB) t'
 | [],[],h=>Or.inl ⟨rfl,rfl⟩
 | [],s :: t,h=>Or.inr ⟨s,[],t,rfl,trivial,rfl⟩
 | b :: bs,t,h=>by
  right
  rcases h.2.1 with h1|h1
  ·exact absurd h1 (by simp)
  ·obtain ⟨bk,bd,bi⟩:=b
   cases bk with
   | nil=>exact absurd rfl h1
   | cons x k'=>exact ⟨x,⟨k',bd,bi⟩ :: bs,t,rfl,⟨h.1,Or.inl rfl,h.2.2⟩,rfl⟩
theorem RTurn_blk (a0 a1 a2 a3 b0 b1 b2 b3:Int) (l:List ByteArray) (hs:∀ s ∈ l,1≤s.size∧s.size≤4611686018427387904) (hn:l.length≤274877906944) :
  ∀ (N:Nat) (bs:List Blk) (t:List ByteArray) (i:Nat) (out:List ByteArray),(blkLines bs t).length≤N→BOk true bs→l.drop i=blkLines bs t→out.length+(blkLines bs t).length≤549755813888 →
  Ev (fun k=>r05_Turn.l0 k (i:Int) a0 a1 a2 a3 l b0 b1 b2 b3 out) (b0,b1,b2,b3,out++blkLines (bs.map swapB) t):=by
 have stop:∀ (i:Nat) (out:List ByteArray),l.length≤i→Ev (fun k=>r05_Turn.l0 k (i:Int) a0 a1 a2 a3 l b0 b1 b2 b3 out) (b0,b1,b2,b3,out):=by
  intro i out h
  refine Ev.step (fun _=>r05_Turn.l0.eq_2 ..) ?_
  simp only [if_neg (show ¬ (i:Int)<(l.length:Int) by omega)]
  exact Ev.now _
 intro N
 induction N with
 | zero =>
  intro bs t i out hN hB hL ho
  have e:blkLines bs t=[]:=List.eq_nil_of_length_eq_zero (by omega)
  have hl:=congrArg List.length hL
  rw [e,List.length_drop,List.length_nil] at hl
  have e2:blkLines (bs.map swapB) t=[]:=by
   have h1:=blkLines_len (bs.map swapB) t
   have h2:=blkLines_len_eq bs t
   rw [oldN_swap,newN_swap] at h1
   rw [e,List.length_nil] at h2
   exact List.eq_nil_of_length_eq_zero (by omega)
  rw [e2,List.append_nil]
  exact stop i out (by omega)
 | succ N ih =>
  intro bs t i out hN hB hL ho
  have head:∀ (x:ByteArray) (bs':List Blk) (t':List ByteArray),blkLines bs t=sg 32 x :: blkLines bs' t'→BOk true bs'→blkLines (bs.map swapB) t=sg 32 x :: blkLines (bs'.map swapB) t' →
    Ev (fun k=>r05_Turn.l0 k (i:Int) a0 a1 a2 a3 l b0 b1 b2 b3 out) (b0,b1,b2,b3,out++blkLines (bs.map swapB) t):=by
   intro x bs' t' h1 h2 h3
   have hl:=congrArg List.length hL
   have hl2:=congrArg List.length h1
   rw [List.length_drop] at hl
   rw [List.length_cons] at hl2
   have hn0:n32 (blkLines bs t)=0:=by rw [h1,n32,if_pos (by rw [sg_bt];rfl)]
   refine T_round a0 a1 a2 a3 b0 b1 b2 b3 l _ hs (by omega) i (by omega) out _ hL (by omega) ?_
   rw [hn0,h3]
   simp only [List.take_zero,plusT,minusT,List.nil_append,List.drop_zero,Nat.add_zero]
   rw [h1]
   have e:out++(sg 32 x :: blkLines bs' t').take 1=out++[sg 32 x]:=rfl
   rw [e,show out++sg 32 x :: blkLines (bs'.map swapB) t'=(out++[sg 32 x])++blkLines (bs'.map swapB) t' by rw [List.append_assoc];rfl]
   refine ih bs' t' (i+1) _ (by omega) h2 ?_ (by rw [List.length_append,List.length_singleton];omega)
   rw [← List.drop_drop,hL,h1]
   rfl
  cases bs with
  | nil =>
   cases t with
   | nil =>
    have hl:=congrArg List.length hL
    rw [List.length_drop] at hl
    have:out++blkLines (([]:List Blk).map swapB) []=out:=by simp [blkLines,sgs]
    rw [this]
    exact stop i out (by have h0:(blkLines [] ([]:List ByteArray)).length=0:=rfl;omega)
   | cons s t=>exact head s [] t rfl trivial rfl
  | cons b bs =>
   obtain ⟨bk,bd,bi⟩:=b
   cases bk with
   | cons x k'=>exact head x (⟨k',bd,bi⟩ :: bs) t rfl ⟨hB.1,Or.inl rfl,hB.2.2⟩ rfl
   | nil =>
    have hLe:blkLines (⟨[],bd,bi⟩ :: bs) t=sgs 45 bd++(sgs 43 bi++blkLines bs t):=rfl
    have hRe:blkLines ((⟨[],bd,bi⟩ :: bs:List Blk).map swapB) t=sgs 45 bi++(sgs 43 bd++blkLines (bs.map swapB) t):=rfl
    have hl:=congrArg List.length hL
    rw [List.length_drop] at hl
    have hpos:0<bd.length+bi.length:=by
     rcases hB.1 with h1|h1
     ·have h2:bd≠[]:=h1;have:=List.length_pos_iff.2 h2;omega
     have h2:bi≠[]:=h1;have:=List.length_pos_iff.2 h2;omega
    have hlen:(blkLines (⟨[],bd,bi⟩ :: bs) t).length=bd.length+(bi.length+(blkLines bs t).length):=by rw [hLe];simp only [List.length_append,sgs_len]
    have hn0:n32 (blkLines bs t)=0:=by
     rcases blk_head bs t hB.2.2 with ⟨h1,_⟩|⟨x,bs',t',h1,_,_⟩
     ·rw [h1];rfl
     rw [h1,n32,if_pos (by rw [sg_bt];rfl)]
    have hnn:n32 (blkLines (⟨[],bd,bi⟩ :: bs) t)=bd.length+bi.length:=by rw [hLe,n32_sgs 45 (by decide),n32_sgs 43 (by decide),hn0];omega
    have htk:(blkLines (⟨[],bd,bi⟩ :: bs) t).take (bd.length+bi.length)=sgs 45 bd++sgs 43 bi:=by
     rw [hLe,← List.append_assoc,List.take_append_of_le_length (by simp only [List.length_append,sgs_len];omega),List.take_of_length_le (by simp only [List.length_append,sgs_len];omega)]
    have hdk:(blkLines (⟨[],bd,bi⟩ :: bs) t).drop (bd.length+bi.length)=blkLines bs t:=by
     rw [hLe,← List.drop_drop,drop_sgs 45 bd _ _ rfl,drop_sgs 43 bi _ _ rfl]
    refine T_round a0 a1 a2 a3 b0 b1 b2 b3 l _ hs (by omega) i (by omega) out _ hL (by omega) ?_
    rw [hnn,htk,hdk,plusT_app,plusT_45,plusT_43,List.nil_append,minusT_app,minusT_45,minusT_43,List.append_nil,hRe]
    rcases blk_head bs t hB.2.2 with ⟨h1,h2⟩|⟨x,bs',t',h1,h2,h3⟩
    ·rw [h1,h2,List.take_nil]
     refine stop _ _ ?_
     rw [h1] at hlen
     have h0:(([]:List ByteArray)).length=0:=rfl
     omega
    rw [h1,h3]
    have e:out++(sgs 45 bi++(sgs 43 bd++(sg 32 x :: blkLines bs' t').take 1))=out++(sgs 45 bi++(sgs 43 bd++[sg 32 x])):=rfl
    rw [e,show out++(sgs 45 bi++(sgs 43 bd++sg 32 x :: blkLines (bs'.map swapB) t'))=(out++(sgs 45 bi++(sgs 43 bd++[sg 32 x])))++blkLines (bs'.map swapB) t' by simp only [List.append_assoc,List.cons_append,List.nil_append]]
    have hl2:=congrArg List.length h1
    rw [List.length_cons] at hl2
    refine ih bs' t' _ _ (by omega) h2 ?_ (by simp only [List.length_append,sgs_len,List.length_singleton];omega)
    rw [show i+(bd.length+bi.length)+1=i+((bd.length+bi.length)+1) by omega,← List.drop_drop,hL,← List.drop_drop,hdk,h1]
    rfl
theorem RTurnH_ev (A An B Bn:Int) (bs:List Blk) (t:List ByteArray) (h:BOk true bs) (hs:∀ s ∈ blkLines bs t,s.size≤4611686018427387904) (hn:(blkLines bs t).length≤274877906944) :
  Ev (fun k=>r05_Turn.f k A An B Bn (blkLines bs t)) (B,Bn,A,An,blkLines (bs.map swapB) t):=by
 unfold r05_Turn.f
 have e:=RTurn_blk A An B Bn B Bn A An (blkLines bs t) (fun s hm=>⟨blkLines_size bs t s hm,hs s hm⟩) hn _ bs t 0 [] (Nat.le_refl _) h rfl (by simp;omega)
 exact e
end Go.Proofs.Ytoaijganmfijmaa.Pr
-- shrunk
/-
Hunks that take one list to another one: what they make of lines, in plain Lean.
-/
namespace Go.Proofs.Ytoaijganmfijmaa.Pr
open Go.RowKit Go.Proofs.YtoaijganmfijmaaW.PrintWords Go.Proofs.YtoaijganmfijmaaW.PrintLast Go.Proofs.YtoaijganmfijmaaW.PrintMore
def oldL:List Blk→List ByteArray→List ByteArray
 | [],t=>t
 | b :: bs,t=>b.k++(b.d++oldL bs t)
def newL:List Blk→List ByteArray→List ByteArray
 | [],t=>t
 | b :: bs,t=>b.k++(b.i++newL bs t)
theorem oldL_len:∀ (bs:List Blk) (t:List ByteArray),(oldL bs t).length=oldN bs+t.length
 | [],t=>by simp [oldL,oldN]
 | b :: bs,t=>by simp only [oldL,oldN,List.length_append,oldL_len bs t];omega
theorem newL_len:∀ (bs:List Blk) (t:List ByteArray),(newL bs t).length=newN bs+t.length
 | [],t=>by simp [newL,newN]
 | b :: bs,t=>by simp only [newL,newN,List.length_append,newL_len bs t];omega
theorem oldL_swap:∀ (bs:List Blk) (t:List ByteArray),oldL (bs.map swapB) t=newL bs t
 | [],t=>rfl
 | b :: bs,t=>by simp only [List.map_cons,oldL,newL,swapB,oldL_swap bs t]
theorem newL_swap:∀ (bs:List Blk) (t:List ByteArray),newL (bs.map swapB) t=oldL bs t
 | [],t=>rfl
 | b :: bs,t=>by simp only [List.map_cons,oldL,newL,swapB,newL_swap bs t]
theorem pre_cons (a:List ByteArray) (p:Nat) (s:ByteArray) (k:List ByteArray):(s :: k) <+: a.drop p ↔ a[p]?=some s∧k <+: a.drop (p+1):=by
 rcases Nat.lt_or_ge p a.length with h|h
 ·rw [List.drop_eq_getElem_cons h,List.cons_prefix_cons,List.getElem?_eq_getElem h,Option.some.injEq]
  exact ⟨fun h=>⟨h.1.symm,h.2⟩,fun h=>⟨h.1.symm,h.2⟩⟩
 rw [List.drop_of_length_le h,List.getElem?_eq_none h]
 constructor
 ·intro h;exact absurd h (by simp)
 intro h;cases h.1
theorem pre_app (a:List ByteArray):∀ (x:List ByteArray) (p:Nat) (y:List ByteArray),(x++y) <+: a.drop p ↔ x <+: a.drop p∧y <+: a.drop (p+x.length)
 | [],p,y=>by simp
 | s :: x,p,y=>by
  rw [List.cons_append,pre_cons,pre_cons,pre_app a x,List.length_cons,and_assoc,show p+1+x.length=p+(x.length+1) by omega]
theorem lineP_32 (a:List ByteArray):∀ (k R:List ByteArray) (p:Nat) (out:List ByteArray),(k <+: a.drop p→lineP a p out (sgs 32 k++R)=lineP a (p+k.length) (out++k) R)∧(¬ k <+: a.drop p→lineP a p out (sgs 32 k++R)=none)
 | [],R,p,out=>⟨fun _=>by rw [List.append_nil];rfl,fun h=>absurd (List.nil_prefix) h⟩
 | s :: k,R,p,out=>by
  show (_→lineP a p out (sg 32 s :: (sgs 32 k++R))=_)∧(_→lineP a p out (sg 32 s :: (sgs 32 k++R))=_)
  have hb:bt (sg 32 s) 0=32:=sg_bt 32 s
  rw [lineP,hb,if_neg (show ¬ (32:Int)=43 by decide),if_neg (show ¬ (32:Int)=45 by decide),tl_sg,pre_cons]
  have ih:=lineP_32 a k R (p+1) (out++[s])
  by_cases c:a[p]?=some s
  ·rw [if_pos c]
   refine ⟨fun h=>?_,fun h=>ih.2 (fun h2=>h ⟨c,h2⟩)⟩
   rw [ih.1 h.2,List.append_assoc,List.length_cons,show p+1+k.length=p+(k.length+1) by omega];rfl
  ·rw [if_neg c]
   exact ⟨fun h=>absurd h.1 c,fun _=>rfl⟩
theorem lineP_45 (a:List ByteArray):∀ (k R:List ByteArray) (p:Nat) (out:List ByteArray),(k <+: a.drop p→lineP a p out (sgs 45 k++R)=lineP a (p+k.length) out R)∧(¬ k <+: a.drop p→lineP a p out (sgs 45 k++R)=none)
 | [],R,p,out=>⟨fun _=>rfl,fun h=>absurd (List.nil_prefix) h⟩
 | s :: k,R,p,out=>by
  show (_→lineP a p out (sg 45 s :: (sgs 45 k++R))=_)∧(_→lineP a p out (sg 45 s :: (sgs 45 k++R))=_)
  have hb:bt (sg 45 s) 0=45:=sg_bt 45 s
  rw [lineP,hb,if_neg (show ¬ (45:Int)=43 by decide),if_pos (show (45:Int)=45 from rfl),tl_sg,pre_cons]
  have ih:=lineP_45 a k R (p+1) out
  by_cases c:a[p]?=some s
  ·rw [if_pos c]
   refine ⟨fun h=>?_,fun h=>ih.2 (fun h2=>h ⟨c,h2⟩)⟩
   rw [ih.1 h.2,List.length_cons,show p+1+k.length=p+(k.length+1) by omega]
  ·rw [if_neg c]
   exact ⟨fun h=>absurd h.1 c,fun _=>rfl⟩
theorem lineP_43 (a:List ByteArray):∀ (k R:List ByteArray) (p:Nat) (out:List ByteArray),lineP a p out (sgs 43 k++R)=lineP a p (out++k) R
 | [],R,p,out=>by rw [List.append_nil];rfl
 | s :: k,R,p,out=>by
  show lineP a p out (sg 43 s :: (sgs 43 k++R))=_
  have hb:bt (sg 43 s) 0=43:=sg_bt 43 s
  rw [lineP,hb,if_pos rfl,tl_sg,lineP_43 a k R,List.append_assoc];rfl
theorem lineP_blk (a:List ByteArray):∀ (bs:List Blk) (t:List ByteArray) (p:Nat) (out:List ByteArray),
  (oldL bs t <+: a.drop p→lineP a p out (blkLines bs t)=some (out++newL bs t,p+(oldN bs+t.length)))∧(¬ oldL bs t <+: a.drop p→lineP a p out (blkLines bs t)=none)
 | [],t,p,out=>by
  have h:=lineP_32 a t [] p out
  rw [List.append_nil] at h
  simp only [oldL,newL,blkLines,oldN,Nat.zero_add]
  exact h
 | b :: bs,t,p,out=>by
  simp only [oldL,newL,blkLines,oldN]
  rw [pre_app,pre_app]
  have h1:=lineP_32 a b.k (sgs 45 b.d++(sgs 43 b.i++blkLines bs t)) p out
  have h2:=lineP_45 a b.d (sgs 43 b.i++blkLines bs t) (p+b.k.length) (out++b.k)
  have h3:=lineP_43 a b.i (blkLines bs t) (p+b.k.length+b.d.length) (out++b.k)
  have h4:=lineP_blk a bs t (p+b.k.length+b.d.length) (out++b.k++b.i)
  by_cases c1:b.k <+: a.drop p
  ·by_cases c2:b.d <+: a.drop (p+b.k.length)
   ·rw [h1.1 c1,h2.1 c2,h3]
    refine ⟨fun h=>?_,fun h=>h4.2 (fun hh=>h ⟨c1,c2,hh⟩)⟩
    rw [h4.1 h.2.2]
    congr 2
    ·simp only [List.append_assoc]
    ·omega
   ·exact ⟨fun h=>absurd h.2.1 c2,fun _=>by rw [h1.1 c1,h2.2 c2]⟩
  ·exact ⟨fun h=>absurd h.1 c1,fun _=>h1.2 c1⟩
structure TakeOne (a b:List ByteArray) (d d':Nat) (h:Hk) (A B:Nat) (bs:List Blk) (t:List ByteArray):Prop where
 eq:h=⟨(A:Int),((oldN bs+t.length:Nat):Int),(B:Int),((newN bs+t.length:Nat):Int),blkLines bs t⟩
 hd:d≤A
 hd':d'≤B
 hA:A+(oldN bs+t.length)≤a.length
 hB:B+(newN bs+t.length)≤b.length
 gap:(a.take A).drop d=(b.take B).drop d'
 ho:(a.drop A).take (oldN bs+t.length)=oldL bs t
 hn:(b.drop B).take (newN bs+t.length)=newL bs t
 ok:BOk true bs
def Takes (a b:List ByteArray):Nat→Nat→List Hk→Prop
 | d,d',[]=>a.drop d=b.drop d'∧d≤a.length∧d'≤b.length
 | d,d',h :: hs=>∃ (A B:Nat) (bs:List Blk) (t:List ByteArray),TakeOne a b d d' h A B bs t∧Takes a b (A+(oldN bs+t.length)) (B+(newN bs+t.length)) hs
theorem gap_app (b:List ByteArray) {d B:Nat} (h:d≤B):(b.take B).drop d++b.drop B=b.drop d:=by
 rw [List.drop_take]
 have:b.drop B=(b.drop d).drop (B - d):=by rw [List.drop_drop];congr 1;omega
 rw [this,List.take_append_drop]
theorem takes_one {a b:List ByteArray} {d d':Nat} {h:Hk} {A B:Nat} {bs:List Blk} {t:List ByteArray} (H:TakeOne a b d d' h A B bs t) (out:List ByteArray) :
  oneP a d h.f0 h.f4 out=some (out++(a.take A).drop d++newL bs t,A+(oldN bs+t.length)):=by
 rw [H.eq]
 show oneP a d (A:Int) (blkLines bs t) out=_
 have:=H.hA
 rw [oneP,if_pos (by omega),Int.toNat_natCast,(lineP_blk a bs t A _).1 (by rw [← H.ho];exact List.take_prefix _ _)]
theorem takes_apply (a b:List ByteArray):∀ (l:List Hk) (d d':Nat) (out:List ByteArray),Takes a b d d' l→∃ o p,allP a d out l=some (o,p)∧p≤a.length∧o++a.drop p=out++b.drop d'
 | [],d,d',out,h=>⟨out,d,rfl,h.2.1,by rw [h.1]⟩
 | x :: l,d,d',out,h=>by
  obtain ⟨A,B,bs,t,H,hr⟩:=h
  obtain ⟨o,p,h1,h2,h3⟩:=takes_apply a b l _ _ (out++(a.take A).drop d++newL bs t) hr
  refine ⟨o,p,?_,h2,?_⟩
  ·rw [allP,takes_one H];exact h1
  ·rw [h3,H.gap,← H.hn,List.append_assoc,List.append_assoc,show b.drop (B+(newN bs+t.length))=(b.drop B).drop (newN bs+t.length) by rw [List.drop_drop],List.take_append_drop,gap_app b H.hd']
def Turned:List Hk→List Hk→Prop
 | [],[]=>True
 | h :: hs,m :: ms=>(∃ (A An B Bn:Int) (bs:List Blk) (t:List ByteArray),h=⟨A,An,B,Bn,blkLines bs t⟩∧m=⟨B,Bn,A,An,blkLines (bs.map swapB) t⟩∧BOk true bs)∧Turned hs ms
 | _,_=>False
theorem takes_turn (a b:List ByteArray):∀ (l:List Hk) (d d':Nat),Takes a b d d' l→∃ m,Turned l m∧Takes b a d' d m
 | [],d,d',h=>⟨[],trivial,h.1.symm,h.2.2,h.2.1⟩
 | x :: l,d,d',h=>by
  obtain ⟨A,B,bs,t,H,hr⟩:=h
  obtain ⟨m,h1,h2⟩:=takes_turn a b l _ _ hr
  refine ⟨⟨(B:Int),((newN bs+t.length:Nat):Int),(A:Int),((oldN bs+t.length:Nat):Int),blkLines (bs.map swapB) t⟩ :: m,⟨⟨_,_,_,_,bs,t,H.eq,rfl,H.ok⟩,h1⟩,B,A,bs.map swapB,t,⟨?_,H.hd',H.hd,?_,?_,H.gap.symm,?_,?_,BOk_swap _ _ H.ok⟩,?_⟩
  ·rw [oldN_swap,newN_swap]
  ·rw [oldN_swap];exact H.hB
  ·rw [newN_swap];exact H.hA
  ·rw [oldN_swap,oldL_swap];exact H.hn
  ·rw [newN_swap,newL_swap];exact H.ho
  ·rw [oldN_swap,newN_swap];exact h2
theorem takes_b {a b:List ByteArray} {d d':Nat} {h:Hk} {A B:Nat} {bs:List Blk} {t:List ByteArray} (H:TakeOne a b d d' h A B bs t):(B:Int)=A+(d' - d):=by
 have h1:=congrArg List.length H.gap
 have h2:=H.hA
 have h3:=H.hB
 have h4:=H.hd
 have h5:=H.hd'
 rw [List.length_drop,List.length_drop,List.length_take,List.length_take] at h1
 omega
theorem rightL_blk (A B:Nat) (bs:List Blk) (t:List ByteArray) (ok:BOk true bs):rightL (A:Int) ((oldN bs+t.length:Nat):Int) (B:Int) ((newN bs+t.length:Nat):Int) (blkLines bs t)=true:=by
 rw [← right_same,decide_eq_true_eq,cntL_blk bs t true false 0 0 ok (fun _=>rfl)]
 refine ⟨rfl,by omega,by omega,?_,?_⟩
 ·show (0:Int)+_+_=_;push_cast;omega
 show (0:Int)+_+_=_;push_cast;omega
theorem takes_right (a b:List ByteArray):∀ (l:List Hk) (d d':Nat),Takes a b d d' l→rightP (d:Int) ((d':Int) - d) l=true
 | [],d,d',h=>rfl
 | x :: l,d,d',h=>by
  obtain ⟨A,B,bs,t,H,hr⟩:=h
  have hB:=takes_b H
  have hd:=H.hd
  have ih:=takes_right a b l _ _ hr
  rw [rightP,Bool.and_eq_true,Bool.and_eq_true,Bool.and_eq_true,decide_eq_true_eq,decide_eq_true_eq,H.eq]
  refine ⟨⟨⟨rightL_blk A B bs t H.ok,by show (d:Int)≤A;omega⟩,hB⟩,?_⟩
  rw [show ((A+(oldN bs+t.length):Nat):Int)=(A:Int)+((oldN bs+t.length:Nat):Int) by omega,show ((B+(newN bs+t.length):Nat):Int) - ((A:Int)+((oldN bs+t.length:Nat):Int))=(d':Int) - d+((newN bs+t.length:Nat):Int) - ((oldN bs+t.length:Nat):Int) by omega] at ih
  exact ih
theorem takes_applyP {a b:List ByteArray} {l:List Hk} (h:Takes a b 0 0 l):applyP a l=(b,0):=by
 have hr:=takes_right a b l 0 0 h
 obtain ⟨o,p,h1,h2,h3⟩:=takes_apply a b l 0 0 [] h
 unfold applyP
 rw [if_pos (by simpa using hr),h1]
 show (o++a.drop p,(0:Int))=(b,0)
 rw [h3];simp
theorem takes_ge (a b:List ByteArray):∀ (l:List Hk) (d d':Nat),Takes a b d d' l→∀ h ∈ l,(d:Int)≤h.f0
 | [],d,d',_,h,hh=>absurd hh (by simp)
 | x :: l,d,d',H,h,hh=>by
  obtain ⟨A,B,bs,t,H,hr⟩:=H
  have:=H.hd
  rcases List.mem_cons.1 hh with rfl|hh
  ·rw [H.eq];show (d:Int)≤A;omega
  ·have:=takes_ge a b l _ _ hr h hh
   omega
theorem takes_cong (a b c:List ByteArray) (hl:c.length=a.length):∀ (l:List Hk) (d d':Nat),c.drop d=a.drop d→Takes a b d d' l→Takes c b d d' l
 | [],d,d',e,h=>⟨by rw [e,h.1],by rw [hl];exact h.2.1,h.2.2⟩
 | x :: l,d,d',e,h=>by
  obtain ⟨A,B,bs,t,H,hr⟩:=h
  have hd:=H.hd
  have e2:∀ n,d≤n→c.drop n=a.drop n:=fun n hn=>by
   have:=congrArg (List.drop (n - d)) e
   rw [List.drop_drop,List.drop_drop,show d+(n - d)=n by omega] at this
   exact this
  refine ⟨A,B,bs,t,⟨H.eq,H.hd,H.hd',by rw [hl];exact H.hA,H.hB,?_,by rw [e2 A hd];exact H.ho,H.hn,H.ok⟩,takes_cong a b c hl l _ _ (e2 _ (by omega)) hr⟩
  rw [← H.gap,List.drop_take,List.drop_take,e]
def inH (k:Nat) (l:List Hk):Prop:=∃ h ∈ l,h.f0≤(k:Int)∧(k:Int)<h.f0+h.f1
theorem drop_set_lt (a:List ByteArray) (k n:Nat) (s:ByteArray) (h:k<n):(a.set k s).drop n=a.drop n:=by
 rw [List.drop_set,if_pos h]
theorem exact_all (a b:List ByteArray) (k:Nat) (s:ByteArray) (hk:k<a.length) (hs:a[k]?≠some s):∀ (l:List Hk) (d d':Nat) (out:List ByteArray),Takes a b d d' l→d≤k →
  (inH k l→allP (a.set k s) d out l=none)∧(¬ inH k l→∃ o p,allP (a.set k s) d out l=some (o,p)∧(o++(a.set k s).drop p).length=out.length+(b.drop d').length∧s ∈ o++(a.set k s).drop p)
 | [],d,d',out,h,hd=>by
  refine ⟨fun ⟨h,hh,_⟩=>absurd hh (by simp),fun _=>⟨out,d,rfl,?_,?_⟩⟩
  ·rw [← h.1,List.length_append,List.length_drop,List.length_set,List.length_drop]
  ·refine List.mem_append_right _ ?_
   rw [List.drop_set,if_neg (by omega)]
   exact List.mem_of_getElem? (List.getElem?_set_self (by rw [List.length_drop];omega))
 | x :: l,d,d',out,h,hd=>by
  obtain ⟨A,B,bs,t,H,hr⟩:=h
  have hdA:=H.hd
  have hAl:=H.hA
  have hx0:x.f0=A:=by rw [H.eq]
  have hx1:x.f1=((oldN bs+t.length:Nat):Int):=by rw [H.eq]
  have hx4:x.f4=blkLines bs t:=by rw [H.eq]
  have hlc:(a.set k s).length=a.length:=List.length_set
  have hone:oneP (a.set k s) d x.f0 x.f4 out=lineP (a.set k s) A (out++((a.set k s).take A).drop d) (blkLines bs t):=by
   rw [hx0,hx4,oneP,if_pos (by rw [hlc];omega),Int.toNat_natCast]
  by_cases c1:k<A
  ·-- ahead of the hunk
   have hno:¬ inH k (x :: l):=by
    rintro ⟨h,hh,h1,h2⟩
    rcases List.mem_cons.1 hh with rfl|hh
    ·rw [hx0] at h1;omega
    ·have:=takes_ge a b l _ _ hr h hh
     omega
   refine ⟨fun h=>absurd h hno,fun _=>?_⟩
   have hcd:∀ n,k<n→(a.set k s).drop n=a.drop n:=fun n hn=>drop_set_lt a k n s hn
   have hlp:=(lineP_blk (a.set k s) bs t A (out++((a.set k s).take A).drop d)).1 (by rw [hcd A c1,← H.ho];exact List.take_prefix _ _)
   have ht2:=takes_cong a b (a.set k s) hlc l _ _ (hcd _ (by omega)) hr
   obtain ⟨o,p,h1,h2,h3⟩:=takes_apply (a.set k s) b l _ _ (out++((a.set k s).take A).drop d++newL bs t) ht2
   refine ⟨o,p,?_,?_,?_⟩
   ·rw [allP,hone,hlp];exact h1
   ·rw [h3]
    have hgl:=congrArg List.length H.gap
    have:=H.hB
    have:=H.hd'
    simp only [List.length_append,List.length_drop,List.length_take,List.length_set,newL_len] at hgl ⊢
    omega
   ·rw [h3]
    refine List.mem_append_left _ (List.mem_append_left _ (List.mem_append_right _ ?_))
    rw [List.take_set,List.drop_set,if_neg (by omega)]
    exact List.mem_of_getElem? (List.getElem?_set_self (by rw [List.length_drop,List.length_take];omega))
  ·by_cases c2:k<A+(oldN bs+t.length)
   ·have hin:inH k (x :: l):=⟨x,List.mem_cons_self,by rw [hx0];omega,by rw [hx0,hx1];omega⟩
    refine ⟨fun _=>?_,fun h=>absurd hin h⟩
    have hnp:¬ oldL bs t <+: (a.set k s).drop A:=by
     rintro ⟨r,hr⟩
     have h1:(oldL bs t)[k - A]?=a[k]?:=by
      rw [← H.ho,List.getElem?_take_of_lt (by omega),List.getElem?_drop,show A+(k - A)=k by omega]
     have h2:(oldL bs t)[k - A]?=some s:=by
      have:=congrArg (fun z=>z[k - A]?) hr
      rw [List.getElem?_append_left (by rw [oldL_len];omega),List.getElem?_drop,show A+(k - A)=k by omega,List.getElem?_set_self hk] at this
      exact this
     exact hs (h1.symm.trans h2)
    rw [allP,hone,(lineP_blk (a.set k s) bs t A _).2 hnp]
   ·have hiff:inH k (x :: l) ↔ inH k l:=by
     constructor
     ·rintro ⟨h,hh,h1,h2⟩
      rcases List.mem_cons.1 hh with rfl|hh
      ·rw [hx0,hx1] at h2;omega
      ·exact ⟨h,hh,h1,h2⟩
     ·rintro ⟨h,hh,h12⟩
      exact ⟨h,List.mem_cons_of_mem _ hh,h12⟩
    have htk:(a.set k s).take A=a.take A:=by rw [List.take_set,List.set_eq_of_length_le (by rw [List.length_take];omega)]
    have hpre:oldL bs t <+: (a.set k s).drop A:=by
     have e:((a.set k s).drop A).take (oldN bs+t.length)=oldL bs t:=by
      rw [List.drop_set,if_neg (by omega),List.take_set,List.set_eq_of_length_le (by rw [List.length_take,List.length_drop];omega),H.ho]
     rw [← e];exact List.take_prefix _ _
    have hlp:=(lineP_blk (a.set k s) bs t A (out++((a.set k s).take A).drop d)).1 hpre
    have ih:=exact_all a b k s hk hs l _ _ (out++((a.set k s).take A).drop d++newL bs t) hr (by omega)
    have hal:allP (a.set k s) d out (x :: l)=allP (a.set k s) (A+(oldN bs+t.length)) (out++((a.set k s).take A).drop d++newL bs t) l:=by
     rw [allP,hone,hlp]
    rw [hal,hiff]
    refine ⟨ih.1,fun h=>?_⟩
    obtain ⟨o,p,h1,h2,h3⟩:=ih.2 h
    refine ⟨o,p,h1,?_,h3⟩
    rw [h2,htk,H.gap]
    have:=H.hB
    have:=H.hd'
    simp only [List.length_append,List.length_drop,List.length_take,newL_len]
    omega
end Go.Proofs.Ytoaijganmfijmaa.Pr
-- shrunk
