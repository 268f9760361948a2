/-
Several plain texts in one.
-/
import Derived.Test.YtoaijganmfijmaaK0
import Derived.Test.YtoaijganmfijmaaK6
import Derived.Test.YtoaijganmfijmaaGRefDiff
import Derived.Test.YtoaijganmfijmaaGRefMake
import Derived.Test.YtoaijganmfijmaaK5
import Derived.Test.YtoaijganmfijmaaK3
import Derived.Deep.Strs
import Derived.SizedLaws
import Derived.ChangeOld
import Derived.Carry
import Derived.Test.YtoaijganmfijmaaWWords
import Derived.Test.YtoaijganmfijmaaWMore
import Derived.Test.YtoaijganmfijmaaWLast
import Derived.KernelRfl
set_option linter.unusedVariables false
set_option linter.unusedSimpArgs false
-- written by a program of this session's (a turned copy of the kit's printer); Lean checks it
namespace Go.Proofs.Ytoaijganmfijmaa.Pr
open Go.RowKit Go.Proofs.YtoaijganmfijmaaW.PrintWords Go.Proofs.YtoaijganmfijmaaW.PrintLast Go.Proofs.YtoaijganmfijmaaW.PrintMore
attribute [local go_sem] max2_int min2_int max_two min_two max_three min_three max_four min_four   -- for this text's walks alone

def l07_ApplyBetween.j0:Nat→List ByteArray→List ByteArray→Int→Bool→Bool→Option (Bool)
 | 0,_,_,_,_,_=>none
 | k+1,x0,x1,x2,x7,x20=>if x20=true then (some x7) else ((apply_Between.f k x0 x1 x2).bind fun bt401=>((r04_Diff.f x0 x1).bind fun t405=>((r05_Make.f x0 t405 x2).bind fun bt408=>(if x7=true then (if bt401.2=bt408.2 then ((r05_Same.f k bt401.1 bt408.1).bind fun t412=>(some t412)) else (some false)) else (some false)))))
def l07_ApplyBetween.f (k:Nat) (l0:List ByteArray) (l1:List ByteArray) (a2:Int):Option (Bool):=(l07_awake.f).bind fun t400=>(if (l0.length:Int) > 24 then (l07_ApplyBetween.j0 k l0 l1 a2 t400 true) else (l07_ApplyBetween.j0 k l0 l1 a2 t400 (decide ((l1.length:Int) > 24))))
theorem l07_ApplyBetween.mono_l:∀ k,(∀ y0 y1 y2 y3 y4,LeO (l07_ApplyBetween.j0 k y0 y1 y2 y3 y4) (l07_ApplyBetween.j0 (k+1) y0 y1 y2 y3 y4))
 | 0=>fun _ _ _ _ _ r h=>by simp [l07_ApplyBetween.j0] at h
 | k+1=>by
  have ih0:=l07_ApplyBetween.mono_l k
  ·intro y0 y1 y2 y3 y4
   unfold l07_ApplyBetween.j0
   repeat' first
   | (with_reducible exact ih0 _ _ _ _ _)
   | (with_reducible exact apply_Between.mono _ _ _ _)
   | (with_reducible exact r05_Same.mono _ _ _)
   | (with_reducible exact LeO.refl _)
   | (with_reducible exact LeO.none _)
   | (with_reducible refine LeO.ite ?_ ?_)
   | (with_reducible refine LeO.bind ?_ (fun _=>?_))
   | exact ih0 _ _ _ _ _
   | exact apply_Between.mono _ _ _ _
   | exact r05_Same.mono _ _ _
   | exact LeO.none _
   | refine LeO.ite ?_ ?_
   | refine LeO.bind ?_ (fun _=>?_)
theorem l07_ApplyBetween.mono:∀ a0 a1 a2 k,LeO (l07_ApplyBetween.f k a0 a1 a2) (l07_ApplyBetween.f (k+1) a0 a1 a2):=by
 intro a0 a1 a2 k
 have ih0:=l07_ApplyBetween.mono_l k
 unfold l07_ApplyBetween.f
 repeat' first
   | (with_reducible exact ih0 _ _ _ _ _)
   | (with_reducible exact apply_Between.mono _ _ _ _)
   | (with_reducible exact r05_Same.mono _ _ _)
   | (with_reducible exact LeO.refl _)
   | (with_reducible exact LeO.none _)
   | (with_reducible refine LeO.ite ?_ ?_)
   | (with_reducible refine LeO.bind ?_ (fun _=>?_))
   | exact ih0 _ _ _ _ _
   | exact apply_Between.mono _ _ _ _
   | exact r05_Same.mono _ _ _
   | exact LeO.none _
   | refine LeO.ite ?_ ?_
   | refine LeO.bind ?_ (fun _=>?_)
set_option maxHeartbeats 8000000 in
set_option maxRecDepth 100000 in
theorem l07_ApplyBetween.calls (k:Nat) (A0:Option Addr) (c0:Nat) (l0:List ByteArray) (A1:Option Addr) (c1:Nat) (l1:List ByteArray) (a2:Int) (r:Bool) (w:World) (hrt_:Aside0 (r=true)) (hr0:Kd.C Kd.string w A0 l0.length l0) (hc0:l0.length≤c0) (hr1:Kd.C Kd.string w A1 l1.length l1) (hc1:l1.length≤c1) (h:l07_ApplyBetween.f k l0 l1 a2=some r) :
  Calls Try.prog 4 #[.slice A0 l0.length c0,.slice A1 l1.length c1,.int .i64 a2] w fun e w'=>e=.returned (.bool r)∧Below w.heap.size w w':=by
 have HR0:=Aside0.mk hr0
 have HC0:=Aside0.mk hc0
 clear hr0 hc0
 have HR1:=Aside0.mk hr1
 have HC1:=Aside0.mk hc1
 clear hr1 hc1
 have HB:=Aside0.mk (Below.refl w.heap.size w)
 have H:((l07_awake.f).bind fun t400=>(if (l0.length:Int) > 24 then (l07_ApplyBetween.j0 k l0 l1 a2 t400 true) else (l07_ApplyBetween.j0 k l0 l1 a2 t400 (decide ((l1.length:Int) > 24)))))=some r:=h
 clear h
 replace H:=Option.bind_eq_some_iff.mp H
 obtain ⟨t400,A40,H⟩:=H
 replace H:(if (l0.length:Int) > 24 then (l07_ApplyBetween.j0 k l0 l1 a2 t400 true) else (l07_ApplyBetween.j0 k l0 l1 a2 t400 (decide ((l1.length:Int) > 24))))=some r:=H
 have A4:=Aside0.mk A40
 clear A40
 have HC5:=Aside0.mk H
 clear H
 go_enter Try.func4,Try.ntmps4
 go_upto_region 2 with (first|((with_reducible refine gate_callee (f:=10) rfl ?_);refine goesL_ (some 12) rfl rfl Try.func10 (by kernel_rfl) rfl #[] rfl (by (try simp only [List.map_toArray,List.map_cons,List.map_nil]);first|done|rfl|(simp only [List.length_drop,List.length_take];rfl)) ?_;(with_reducible refine (l07_awake.calls  t400 _ A4.out).mono ?_);rintro e w6 ⟨rfl,hb⟩;refine ⟨_,rfl,?_⟩;have n0_:=Aside0.mk (below_step bel hb);clear HB;have HB:=n0_;clear n0_;(try clear hb);(try clear hb2);(try clear hk);(try clear hi)))
 (try simp only [Act.put,List.setIfInBounds_toArray,List.set_cons_zero,List.set_cons_succ])
 go_cut [20] (fun v20 wc=>∃ (kq:Nat) (x20_4:Bool),v20=.bool x20_4∧Aside0 (l07_ApplyBetween.j0 kq l0 l1 a2 t400 x20_4=some r)∧Aside0 (kq≤k)∧Aside0 (Below w.heap.size w wc))
 case first =>
  have H:=HC5.out
  clear HC5
  by_cases c7:(l0.length:Int) > 24
  ·rw [if_pos c7] at H
   have c7b0:decide (24<(l0.length:Int))=true:=decide_eq_true c7
   have c7b1:decide (24<l0.length)=true:=decide_eq_true (by omega)
   clear c7
   (first|rw [c7b0]|(simp only [i64_w,i32_w];rw [c7b0])|skip)
   have H':=Aside0.mk H
   clear H
   go_wp2
   go_meet
   case rel=>exact ⟨_,(true),rx,H',⟨by first|omega|exact Nat.le_refl _⟩,⟨by repeat (first|(with_reducible first|exact HB.out|apply below_alloc|apply pw_below_drewN|apply below_drew1)|exact HB.out)⟩⟩
  rw [if_neg c7] at H
  have c7b0:decide (24<(l0.length:Int))=false:=decide_eq_false c7
  have c7b1:decide (24<l0.length)=false:=decide_eq_false (by omega)
  clear c7
  (first|rw [c7b0]|(simp only [i64_w,i32_w];rw [c7b0])|skip)
  have H':=Aside0.mk H
  clear H
  go_wp2
  go_meet
  case rel=>exact ⟨_,(decide ((l1.length:Int) > 24)),rx,H',⟨by first|omega|exact Nat.le_refl _⟩,⟨by repeat (first|(with_reducible first|exact HB.out|apply below_alloc|apply pw_below_drewN|apply below_drew1)|exact HB.out)⟩⟩
 case rest =>
  clear HC5
  try clear c1
  try clear p2
  try clear c4
  try clear c7
  try clear c7b0
  try clear c7b1
  obtain ⟨kq,x20_4,rfl,HA,HJ4,HB⟩:=hcut
  cases kq with
  | zero=>exact absurd HA.out (by simp [l07_ApplyBetween.j0])
  | succ kj4 =>
   have H:=HA.out
   clear HA
   simp only [l07_ApplyBetween.j0] at H
   by_cases c8:x20_4=true
   ·subst c8
    have H1:(some t400)=some r:=by rw [if_pos rfl] at H;exact H
    clear H
    have H:=H1
    clear H1
    obtain rfl:=Option.some.inj H
    go_wp2
    go_ret
    exact ⟨by first|rfl|(simp [errW_none,errW_some]<;>rfl)|(simp [*,errW_none,errW_some]<;>rfl),bel⟩
   ·replace c8:=Bool.eq_false_iff.mpr c8
    subst c8
    have H1:((apply_Between.f kj4 l0 l1 a2).bind fun bt401=>((r04_Diff.f l0 l1).bind fun t405=>((r05_Make.f l0 t405 a2).bind fun bt408=>(if t400=true then (if bt401.2=bt408.2 then ((r05_Same.f kj4 bt401.1 bt408.1).bind fun t412=>(some t412)) else (some false)) else (some false)))))=some r:=by rw [if_neg (show ¬ (false=true) by decide)] at H;exact H
    clear H
    have H:=H1
    clear H1
    replace H:=Option.bind_eq_some_iff.mp H
    obtain ⟨⟨t401,t402⟩,A90,H⟩:=H
    replace H:((r04_Diff.f l0 l1).bind fun t405=>((r05_Make.f l0 t405 a2).bind fun bt408=>(if t400=true then (if t402=bt408.2 then ((r05_Same.f kj4 t401 bt408.1).bind fun t412=>(some t412)) else (some false)) else (some false))))=some r:=H
    have A9:=Aside0.mk A90
    clear A90
    replace H:=Option.bind_eq_some_iff.mp H
    obtain ⟨t405,A100,H⟩:=H
    replace H:((r05_Make.f l0 t405 a2).bind fun bt408=>(if t400=true then (if t402=bt408.2 then ((r05_Same.f kj4 t401 bt408.1).bind fun t412=>(some t412)) else (some false)) else (some false)))=some r:=H
    have A10:=Aside0.mk A100
    clear A100
    replace H:=Option.bind_eq_some_iff.mp H
    obtain ⟨⟨t408,t409⟩,A110,H⟩:=H
    replace H:(if t400=true then (if t402=t409 then ((r05_Same.f kj4 t401 t408).bind fun t412=>(some t412)) else (some false)) else (some false))=some r:=H
    have A11:=Aside0.mk A110
    clear A110
    by_cases c12:t400=true
    ·subst c12
     have H1:(if t402=t409 then ((r05_Same.f kj4 t401 t408).bind fun t412=>(some t412)) else (some false))=some r:=by rw [if_pos rfl] at H;exact H
     clear H
     have H:=H1
     clear H1
     by_cases c13:t402=t409
     ·rw [if_pos c13] at H
      have c13b0:(t402 == t409)=true:=beq_iff_eq.mpr c13
      have c13b1:(t402 != t409)=false:=bne_eq_false_iff_eq.mpr c13
      clear c13
      replace H:=Option.bind_eq_some_iff.mp H
      obtain ⟨t412,A140,H⟩:=H
      replace H:(some t412)=some r:=H
      have A14:=Aside0.mk A140
      clear A140
      obtain rfl:=Option.some.inj H
      go_wp2_with (first|((with_reducible refine gate_callee (f:=20) rfl ?_);refine goesL_ (some 26) rfl rfl Try.func20 (by kernel_rfl) rfl #[.slice A0 l0.length c0,.slice A1 l1.length c1,.int .i64 a2] rfl (by (try simp only [List.map_toArray,List.map_cons,List.map_nil]);first|done|rfl|(simp only [List.length_drop,List.length_take];rfl)) ?_;(with_reducible refine (apply_Between.calls kj4 _ _ l0 _ _ l1 a2 t401 t402 _ ?side1 ?side2 ?side3 ?side4 A9.out).mono ?_);(case side1=>repeat (first|exact (Kd.C_below HR0.out HB.out)|(with_reducible refine Kd.C_alloc ?_ _)|(with_reducible refine Kd.C_drewN ?_ _)|(with_reducible refine Kd.C_drew ?_)));(case side2=>exact HC0.out);(case side3=>repeat (first|exact (Kd.C_below HR1.out HB.out)|(with_reducible refine Kd.C_alloc ?_ _)|(with_reducible refine Kd.C_drewN ?_ _)|(with_reducible refine Kd.C_drew ?_)));(case side4=>exact HC1.out);rintro e w15 ⟨v403,rfl,ho0,hb⟩;refine ⟨_,rfl,?_⟩;have n0_:=Aside0.mk (Kd.S_lower ho0 (below_size bel));have n1_:=Aside0.mk (below_step bel hb);clear HB;have HO404:=n0_;have HB:=n1_;clear n0_ n1_;(try clear hb);(try clear hb2);(try clear hk);(try clear hi);(try clear ho0))|((with_reducible refine gate_callee (f:=22) rfl ?_);refine goesL_ (some 33) rfl rfl Try.func22 (by kernel_rfl) rfl #[.slice A0 l0.length c0,.slice A1 l1.length c1] rfl (by (try simp only [List.map_toArray,List.map_cons,List.map_nil]);first|done|rfl|(simp only [List.length_drop,List.length_take];rfl)) ?_;(with_reducible refine (r04_Diff.calls _ _ l0 _ _ l1 t405 _ ?side1 ?side2 ?side3 ?side4 A10.out).mono ?_);(case side1=>repeat (first|exact (Kd.C_below HR0.out HB.out)|(with_reducible refine Kd.C_alloc ?_ _)|(with_reducible refine Kd.C_drewN ?_ _)|(with_reducible refine Kd.C_drew ?_)));(case side2=>exact HC0.out);(case side3=>repeat (first|exact (Kd.C_below HR1.out HB.out)|(with_reducible refine Kd.C_alloc ?_ _)|(with_reducible refine Kd.C_drewN ?_ _)|(with_reducible refine Kd.C_drew ?_)));(case side4=>exact HC1.out);rintro e w16 ⟨v406,rfl,ho0,hb⟩;refine ⟨_,rfl,?_⟩;have n0_:=Aside0.mk (Kd.S_below (by (with_reducible repeat (first|apply Kd.S_alloc|apply Kd.S_drewN|apply Kd.S_drew));exact HO404.out) hb);have n1_:=Aside0.mk (Kd.S_lower ho0 (below_size bel));have n2_:=Aside0.mk (below_step bel hb);clear HO404;clear HB;have HO404:=n0_;have HO407:=n1_;have HB:=n2_;clear n0_ n1_ n2_;(try clear hb);(try clear hb2);(try clear hk);(try clear hi);(try clear ho0);obtain ⟨Ao17,co17,eo17⟩:=Kd.S_slice HO407.out;subst eo17)|((with_reducible refine gate_callee (f:=21) rfl ?_);refine goesL_ (some 35) rfl rfl Try.func21 (by kernel_rfl) rfl #[.slice A0 l0.length c0,.slice Ao17 t405.length co17,.int .i64 a2] rfl (by (try simp only [List.map_toArray,List.map_cons,List.map_nil]);first|done|rfl|(simp only [List.length_drop,List.length_take];rfl)) ?_;(with_reducible refine (r05_Make.calls _ _ l0 _ _ t405 a2 t408 t409 _ ?side1 ?side2 ?side3 ?side4 A11.out).mono ?_);(case side1=>repeat (first|exact (Kd.C_below HR0.out HB.out)|(with_reducible refine Kd.C_alloc ?_ _)|(with_reducible refine Kd.C_drewN ?_ _)|(with_reducible refine Kd.C_drew ?_)));(case side2=>exact HC0.out);(case side3=>repeat (first|exact (Kd.S_reads' HO407.out).2.2|(with_reducible refine Kd.C_alloc ?_ _)|(with_reducible refine Kd.C_drewN ?_ _)|(with_reducible refine Kd.C_drew ?_)));(case side4=>exact (Kd.S_reads' HO407.out).2.1);rintro e w18 ⟨v410,rfl,ho0,hb⟩;refine ⟨_,rfl,?_⟩;have n0_:=Aside0.mk (Kd.S_elder' (by (with_reducible repeat (first|apply Kd.S_alloc|apply Kd.S_drewN|apply Kd.S_drew));exact HO404.out) (Kd.S_base ho0) hb);have n1_:=Aside0.mk (Kd.S_below (by (with_reducible repeat (first|apply Kd.S_alloc|apply Kd.S_drewN|apply Kd.S_drew));exact HO407.out) hb);have n2_:=Aside0.mk (Kd.S_lower (Kd.S_new' ho0 (Kd.S_lt (by (with_reducible repeat (first|apply Kd.S_alloc|apply Kd.S_drewN|apply Kd.S_drew));exact HO404.out))) (below_size bel));have n3_:=Aside0.mk (below_step bel hb);clear HO404;clear HO407;clear HB;have HO404:=n0_;have HO407:=n1_;have HO411:=n2_;have HB:=n3_;clear n0_ n1_ n2_ n3_;(try clear hb);(try clear hb2);(try clear hk);(try clear hi);(try clear ho0);obtain ⟨Ao19,co19,eo19⟩:=Kd.S_slice HO404.out;subst eo19;obtain ⟨Ao20,co20,eo20⟩:=Kd.S_slice HO411.out;subst eo20)|(go_at_call 17;(with_reducible refine (r05_Same.calls kj4 _ _ t401 _ _ t408 t412 _ ?side1 ?side2 ?side3 ?side4 A14.out).mono ?_);(case side1=>repeat (first|exact (Kd.S_reads' HO404.out).2.2|(with_reducible refine Kd.C_alloc ?_ _)|(with_reducible refine Kd.C_drewN ?_ _)|(with_reducible refine Kd.C_drew ?_)));(case side2=>exact (Kd.S_reads' HO404.out).2.1);(case side3=>repeat (first|exact (Kd.S_reads' HO411.out).2.2|(with_reducible refine Kd.C_alloc ?_ _)|(with_reducible refine Kd.C_drewN ?_ _)|(with_reducible refine Kd.C_drew ?_)));(case side4=>exact (Kd.S_reads' HO411.out).2.1);rintro e w21 ⟨rfl,hb⟩;have n0_:=Aside0.mk (Kd.S_below (by (with_reducible repeat (first|apply Kd.S_alloc|apply Kd.S_drewN|apply Kd.S_drew));exact HO404.out) hb);have n1_:=Aside0.mk (Kd.S_below (by (with_reducible repeat (first|apply Kd.S_alloc|apply Kd.S_drewN|apply Kd.S_drew));exact HO407.out) hb);have n2_:=Aside0.mk (Kd.S_below (by (with_reducible repeat (first|apply Kd.S_alloc|apply Kd.S_drewN|apply Kd.S_drew));exact HO411.out) hb);have n3_:=Aside0.mk (below_step bel hb);clear HO404;clear HO407;clear HO411;clear HB;have HO404:=n0_;have HO407:=n1_;have HO411:=n2_;have HB:=n3_;clear n0_ n1_ n2_ n3_;(try clear hb);(try clear hb2);(try clear hk);(try clear hi)))
      go_ret
      exact ⟨by first|rfl|(simp [errW_none,errW_some]<;>rfl)|(simp [*,errW_none,errW_some]<;>rfl),bel⟩
     ·rw [if_neg c13] at H
      have c13b0:(t402 == t409)=false:=beq_eq_false_iff_ne.mpr c13
      have c13b1:(t402 != t409)=true:=bne_iff_ne.mpr c13
      exact absurd (H.trans (congrArg some hrt_.out)) (by simp)
    ·replace c12:=Bool.eq_false_iff.mpr c12
     subst c12
     have H1:(some false)=some r:=by rw [if_neg (show ¬ (false=true) by decide)] at H;exact H
     clear H
     have H:=H1
     clear H1
     exact absurd (H.trans (congrArg some hrt_.out)) (by simp)

end Go.Proofs.Ytoaijganmfijmaa.Pr
-- shrunk
/-
The law ApplyBetween answers true: the plain part.
-/
namespace Go.Proofs.Ytoaijganmfijmaa.Pr
open Go.RowKit Go.Proofs.YtoaijganmfijmaaW.PrintWords Go.Proofs.YtoaijganmfijmaaW.PrintLast Go.Proofs.YtoaijganmfijmaaW.PrintMore
theorem ApplyBetween_pure (a b:List ByteArray) (ar:Int) (ya:a.length * 16≤140737488351232) (za:∀ s ∈ a,s.size≤140737488351232) (yb:b.length * 16≤140737488351232) (zb:∀ s ∈ b,s.size≤140737488351232) (w2:(Lit.int .i64 ar).wf=true) :
  ∃ k,l07_ApplyBetween.f k a b ar=some true:=by
 refine Ev.rounds ?_
 unfold l07_ApplyBetween.f
 have j0t:Ev (fun k=>l07_ApplyBetween.j0 k a b ar true true) true:=by
  refine Ev.step (fun _=>l07_ApplyBetween.j0.eq_2 ..) ?_
  exact Ev.now _
 refine Ev.bind (Ev.none_of fun _=>rfl) ?_
 by_cases c1:(a.length:Int) > 24
 ·simp only [if_pos c1]
  exact j0t
 simp only [if_neg c1]
 by_cases c2:(b.length:Int) > 24
 ·rw [decide_eq_true c2]
  exact j0t
 rw [decide_eq_false c2]
 have hL:=law_between a b (by omega) (by omega) zb
 have hl:=hL.len
 have hi:=hL.ins
 have hS:SmallM a (between a b):=⟨by omega,by omega,by omega,fun s h=>by have:=za s h;omega,hL.str⟩
 refine Ev.step (fun _=>l07_ApplyBetween.j0.eq_2 ..) ?_
 simp only [Bool.false_eq_true,if_false,if_true]
 have hd:apply_Between.f=apply_Between.f:=rfl
 have hbet:∀ r,Ev (fun k=>hunk_Make.f k a (between a b) ar) r→Ev (fun k=>apply_Between.f k a b ar) (r.1,r.2):=by
  intro r h
  unfold apply_Between.f
  refine Ev.bind (Ev.none_of fun _=>Diff_some a b (by omega) (by omega)) ?_
  refine Ev.bind h ?_
  exact Ev.now _
 by_cases hg:okFrom 0 a.length (between a b)=true∧0≤ar∧ar≤1000
 ·obtain ⟨ho,h0,h1⟩:=hg
  have hz:=makeH_sizes a ar h0 (between a b).length (between a b) 0 0 (Nat.le_refl _) (Int.le_refl _) ho
  refine Ev.bind (hbet _ (Make_ev a (between a b) ar (by omega) (by omega) (fun s h=>by have:=za s h;omega) hL.str h0 h1 ho (by omega))) ?_
  refine Ev.bind (a:=between a b) (Ev.none_of fun _=>by rw [r04_Diff.f,if_pos ⟨by omega,by omega⟩]) ?_
  refine Ev.bind (a:=(makeH a ar 0 (between a b),0)) (Ev.none_of fun _=>by rw [r05_Make.f,if_pos hS,if_pos ⟨ho,h0,h1⟩,makeR_eq a ar h0 (between a b) ho]) ?_
  simp only [if_true]
  refine Ev.bind (SameH_ev _ (by omega) (fun h hm=>by have:=hz.2 h hm;omega)) ?_
  exact Ev.now _
 refine Ev.bind (hbet _ (Make_bad a (between a b) ar (by omega) (by omega) hg)) ?_
 refine Ev.bind (a:=between a b) (Ev.none_of fun _=>by rw [r04_Diff.f,if_pos ⟨by omega,by omega⟩]) ?_
 refine Ev.bind (a:=([],1)) (Ev.none_of fun _=>by rw [r05_Make.f,if_pos hS,if_neg hg]) ?_
 simp only [if_true]
 refine Ev.bind (SameH_ev [] (by simp) (by simp)) ?_
 exact Ev.now _
end Go.Proofs.Ytoaijganmfijmaa.Pr
-- shrunk
/-
Arguments that are slices of whatever kind, opened, with the sizes of all that is read behind them. General: no program in sight.
-/
namespace Go.Proofs.Ytoaijganmfijmaa.Pr
open Go.RowKit Go.Proofs.YtoaijganmfijmaaW.PrintWords Go.Proofs.YtoaijganmfijmaaW.PrintLast Go.Proofs.YtoaijganmfijmaaW.PrintMore
open Go.ChangeShapes Go.WideShapes Go.Deep
def Rz (P:Program) {α:Type} (d:Kd α) (S:α→Prop) (t:TypeId):Prop :=
 ∀ (H:Type) (enc:TypeId × Value→H) (w:World) (base:Nat) (spare:Nat→Bool) (held:Bool) (fuel:Nat) (cs:List Value) (x:DataW H × List MemPlace),
  DataW.trod enc P w base spare held fuel t cs=some x→(∀ n ∈ x.1.weights P t,n≤140737488351232)→∃ y,d.K w y cs∧S y
theorem Rz.int {P:Program} {t:TypeId} {k:IntKind} (hu:P.underlying t=some (.int k)):Rz P (Kd.int k) (fun n=>(Lit.int k n).wf=true) t:=fun H enc w base spare held fuel cs x h _=>by
 obtain ⟨n,rfl,_,hw⟩:=DataW.trod_int hu h
 exact ⟨n,rfl,hw⟩
theorem Rz.string {P:Program} {t:TypeId} (hu:P.underlying t=some .string):Rz P Kd.string (fun s=>s.size≤140737488351232) t:=fun H enc w base spare held fuel cs x h hz=>by
 obtain ⟨s,rfl,rfl,_⟩:=DataW.trod_string hu h
 refine ⟨s,rfl,?_⟩
 have:=hz s.data.toList.length (by simp [DataW.weights])
 simpa using this
theorem weights_mem_all {H:Type} {P:Program} {e:TypeId}:∀ {l:List (DataW H)} {d:DataW H},d ∈ l→∀ n ∈ d.weights P e,n ∈ DataW.weightsAll P e l
 | c :: l,d,hd,n,hn=>by
  simp only [DataW.weightsAll,List.mem_append]
  rcases List.mem_cons.1 hd with rfl|hd
  ·exact Or.inl hn
  ·exact Or.inr (weights_mem_all hd n hn)
theorem Rz.slice {P:Program} {α:Type} {d:Kd α} {S:α→Prop} {t e:TypeId} {B:Nat} (hu:P.underlying t=some (.slice e)) (hc:P.cellsOf e=d.sz) (hB:P.bytesOf e=B) (hd:Rz P d S e) :
  Rz P (Kd.slice e d) (fun xs=>xs.length * B≤140737488351232∧∀ y ∈ xs,S y) t:=fun H enc w base spare held fuel cs x h hz=>by
 rcases open_slice hu h with ⟨rfl,_⟩|⟨a,len,cap,m,n,D,Pl,rfl,hb,hl,hm,hmm,rfl,hx⟩
 ·exact ⟨[],⟨none,0,rfl,Nat.le_refl _,rfl,by simp,fun h0=>absurd h0 (Nat.lt_irrefl _)⟩,by simp,by simp⟩
 ·have hlm:len≤m:=by rw [hmm];split<;>omega
  have hw0:len * B≤140737488351232:=by
   have h1:=hz ((((List.range len).map D).length+((List.range (m - len)).map fun j=>D (len+j)).length) * P.bytesOf e) (by simp [DataW.weights,hu])
   rw [hB] at h1
   simp only [List.length_map,List.length_range] at h1
   exact Nat.le_trans (Nat.mul_le_mul_right _ (Nat.le_add_right _ _)) h1
  have hw1:∀ i,i<len→∀ q ∈ (D i).weights P e,q≤140737488351232:=fun i hi q hq=>by
   refine hz q ?_
   simp only [DataW.weights,hu,List.mem_cons,List.mem_append]
   exact Or.inr (Or.inl (weights_mem_all (List.mem_map.2 ⟨i,List.mem_range.2 hi,rfl⟩) q hq))
  have key:∀ k,k≤len→∃ xs:List α,xs.length=k∧(∀ y ∈ xs,S y)∧∀ j p,xs[j]?=some p→∃ c,c.length=d.sz∧d.K w p c∧∀ i u,c[i]?=some u→w.cell? (a.add (j * d.sz+i))=some u:=by
   intro k
   induction k with
   | zero=>exact fun _=>⟨[],rfl,by simp,fun j p hj=>by simp at hj⟩
   | succ k ih =>
    intro hk
    obtain ⟨xs,hxl,hS,hxs⟩:=ih (by omega)
    obtain ⟨cs',h1,h2⟩:=hx k (by omega)
    obtain ⟨y,hy,hSy⟩:=hd H enc w base spare held n cs' _ h2 (hw1 k (by omega))
    obtain ⟨_,hlen,hcell⟩:=World.cells?_some h1
    refine ⟨xs++[y],by simp [hxl],fun z hz=>?_,fun j p hj=>?_⟩
    ·rcases List.mem_append.1 hz with hz|hz
     ·exact hS z hz
     ·rw [List.mem_singleton.1 hz];exact hSy
    by_cases hjk:j<k
    ·rw [List.getElem?_append_left (by omega)] at hj
     exact hxs j p hj
    ·have hj':j=k:=by
      have:j<(xs++[y]).length:=by
       rcases Nat.lt_or_ge j (xs++[y]).length with h|h
       ·exact h
       ·rw [List.getElem?_eq_none h] at hj;cases hj
      simp [hxl] at this;omega
     subst hj'
     rw [List.getElem?_append_right (by omega),hxl,Nat.sub_self] at hj
     obtain rfl:=Option.some.inj hj
     refine ⟨cs',by rw [hlen,hc],hy,fun i u hi=>?_⟩
     have hlt:i<cs'.length:=by
      rcases Nat.lt_or_ge i cs'.length with h|h
      ·exact h
      ·rw [List.getElem?_eq_none h] at hi;cases hi
     rw [← hc,← Deep.add_add,hcell i (by omega),hi]
  obtain ⟨xs,rfl,hS,hxs⟩:=key len (Nat.le_refl _)
  exact ⟨xs,⟨some a,cap,rfl,hl,rfl,by unfold maxLen at hm;omega,fun _=>⟨a,rfl,hxs⟩⟩,hw0,hS⟩
inductive RzF (P:Program):{α:Type}→Kd α→(α→Prop)→Nat→List Field→Prop
 | last {α:Type} {d:Kd α} {S:α→Prop} {f:Field} {off:Nat}:f.offset=off→P.cellsOf f.type=d.sz→Rz P d S f.type→RzF P d S off [f]
 | cons {α β:Type} {a:Kd α} {b:Kd β} {S:α→Prop} {U:β→Prop} {f:Field} {fs:List Field} {off:Nat}:f.offset=off→P.cellsOf f.type=a.sz→Rz P a S f.type→RzF P b U (off+a.sz) fs→RzF P (Kd.pair a b) (fun x=>S x.1∧U x.2) off (f :: fs)
theorem RzF.read {P:Program} {H:Type} {enc:TypeId × Value→H} {w:World} {base:Nat} {spare:Nat→Bool} {held:Bool} {cs:List Value} {α:Type} {d:Kd α} {S:α→Prop} {off:Nat} {fs:List Field} (h:RzF P d S off fs) :
  (∀ f ∈ fs,∃ n x,DataW.trod enc P w base spare held n f.type ((cs.drop f.offset).take (P.cellsOf f.type))=some x∧∀ q ∈ x.1.weights P f.type,q≤140737488351232)→∃ y,d.K w y ((cs.drop off).take d.sz)∧S y:=by
 induction h with
 | last ho hc hr =>
  intro hf
  obtain ⟨n,x,hx,hw⟩:=hf _ (List.mem_singleton.2 rfl)
  rw [ho,hc] at hx
  exact hr H enc w base spare held n _ x hx hw
 | @cons α β a b S U f fs off ho hc hr _ ih =>
  intro hf
  obtain ⟨n,x,hx,hw⟩:=hf _ List.mem_cons_self
  rw [ho,hc] at hx
  obtain ⟨y0,h0,s0⟩:=hr H enc w base spare held n _ x hx hw
  obtain ⟨y1,h1,s1⟩:=ih (fun g hg=>hf g (List.mem_cons_of_mem _ hg))
  refine ⟨(y0,y1),⟨_,_,?_,h0,h1⟩,s0,s1⟩
  show List.take (a.sz+b.sz) _=_
  rw [List.take_add,List.drop_drop]
theorem Rz.struct {P:Program} {α:Type} {d:Kd α} {S:α→Prop} {t:TypeId} {fs:Array Field} (hu:P.underlying t=some (.struct fs)) (hc:P.cellsOf t=d.sz) (hf:RzF P d S 0 fs.toList):Rz P d S t:=fun H enc w base spare held fuel cs x h hz=>by
 obtain ⟨xs,n,_,rfl,hl,hlen,hx⟩:=DataW.trod_struct hu h
 have h2:=hf.read (enc:=enc) (w:=w) (base:=base) (spare:=spare) (held:=held) (cs:=cs) (fun f hm=>by
  obtain ⟨i,hi,he⟩:=List.mem_iff_getElem.1 hm
  have h3:=hx i f (by rw [← he];simp)
  have hi':i<xs.length:=by rw [hlen];simpa using hi
  rw [List.getElem?_eq_getElem hi'] at h3
  refine ⟨n,_,h3,fun q hq=>hz q ?_⟩
  simp only [DataW.weights,hu]
  refine DataW.weights_mem_each (j:=i) (t:=f.type) (d:=xs[i].1) ?_ ?_ q hq
  ·rw [List.getElem?_map,List.getElem?_eq_getElem hi,he];rfl
  ·rw [List.getElem?_map,List.getElem?_eq_getElem hi'];rfl)
 rw [List.drop_zero,List.take_of_length_le (by omega)] at h2
 exact h2
theorem Rz.iso {P:Program} {α β:Type} {d:Kd α} {S:α→Prop} {f:β→α} {t:TypeId} (h:Rz P d S t) (g:∀ y,∃ x,f x=y):Rz P (Kd.iso d f) (fun x=>S (f x)) t:=fun H enc w base spare held fuel cs x hx hz=>by
 obtain ⟨y,hy,hs⟩:=h H enc w base spare held fuel cs x hx hz
 obtain ⟨z,rfl⟩:=g y
 exact ⟨z,hy,hs⟩
theorem Rz.mono {P:Program} {α:Type} {d:Kd α} {S S':α→Prop} {t:TypeId} (h:Rz P d S t) (g:∀ x,S x→S' x):Rz P d S' t:=fun H enc w base spare held fuel cs x hx hz=>by
 obtain ⟨y,hy,hs⟩:=h H enc w base spare held fuel cs x hx hz
 exact ⟨y,hy,g y hs⟩
theorem open_rowz {P:Program} {α:Type} {d:Kd α} {S:α→Prop} {t e:TypeId} {B:Nat} {H:Type} {enc:TypeId × Value→H} {w:World} {r:Reach} {b0 base:Nat} {spare:Nat→Bool} {held:Bool} {v:Value} {x:DataW H} {ps:List MemPlace} {ts:List TypeId} {ds:List (DataW H)} {j:Nat}
  (hsz:(DataW.weightsEach P ts ds).all (·≤reachBytes)=true) (ht:ts[j]?=some t) (hdj:ds[j]?=some x)
  (hu:P.underlying t=some (.slice e)) (hc:P.cellsOf e=d.sz) (hB:P.bytesOf e=B) (hd:Rz P d S e) (hval:Value.okWide P w r b0 t v) (h:DataW.Trod enc P w base spare held t v x ps) :
  ∃ (A:Option Addr) (c:Nat) (xs:List α),v=.slice A xs.length c∧xs.length≤c∧d.C w A xs.length xs∧xs.length * B≤140737488351232∧∀ y ∈ xs,S y:=by
 obtain ⟨a,len,cap,rfl⟩:=okWide_slice hu hval
 obtain ⟨fuel,hf⟩:=h
 obtain ⟨xs,⟨A,c,hcs,hl,hC⟩,hb,hS⟩:=Rz.slice hu hc hB hd H enc w base spare held fuel _ _ hf (fun n hn=>by
  have:=List.all_eq_true.1 hsz _ (DataW.weights_mem_each ht hdj n hn)
  have h2:n≤reachBytes:=by simpa using this
  exact h2)
 simp [Value.cells] at hcs
 obtain ⟨rfl,rfl,rfl⟩:=hcs
 exact ⟨_,_,xs,rfl,hl,hC,hb,hS⟩
end Go.Proofs.Ytoaijganmfijmaa.Pr
-- shrunk
/-
The kinds of the lower layers' arguments, with sizes: lists of texts, edits.
-/
namespace Go.Proofs.Ytoaijganmfijmaa.Pr
open Go.RowKit Go.Proofs.YtoaijganmfijmaaW.PrintWords Go.Proofs.YtoaijganmfijmaaW.PrintLast Go.Proofs.YtoaijganmfijmaaW.PrintMore
theorem rz_string:Rz Try.prog Kd.string (fun s=>s.size≤140737488351232) 9:=Rz.string (by kernel_rfl)
end Go.Proofs.Ytoaijganmfijmaa.Pr
-- shrunk
