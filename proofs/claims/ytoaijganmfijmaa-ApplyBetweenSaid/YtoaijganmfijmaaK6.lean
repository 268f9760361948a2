/-
Several plain texts in one.
-/
import Derived.StillTailTactics
import Derived.Lib.SlicesS
import Derived.IntWalk
import Derived.Deep.DeepMust
import Derived.Test.YtoaijganmfijmaaK5
import Derived.Deep.RegionHeld3
import Derived.Deep.QuietTactic
import Derived.BigQuiet
import Derived.Test.YtoaijganmfijmaaK0
import Derived.Test.YtoaijganmfijmaaK3
import Derived.Test.YtoaijganmfijmaaD6a
set_option linter.unusedVariables false
set_option linter.unusedSimpArgs false
/-
apply's one: a hunk done to lines.
-/
namespace Go.Proofs.Ytoaijganmfijmaa.Pr
open Go.RowKit Go.Proofs.YtoaijganmfijmaaW.PrintWords Go.Proofs.YtoaijganmfijmaaW.PrintLast Go.Proofs.YtoaijganmfijmaaW.PrintMore
def gone_2.T2:Bool × List (List Nat × List Nat):=(true,[([],[]),([],[]),([1],[1]),([2],[2]),([3],[3]),([],[]),([],[]),([6],[6]),([7],[7]),([8],[8]),([],[]),([10],[10]),([5,9,11],[5,9,11]),([4,12],[4,12]),([0,0,1,2,3,4,5,6,7,8,9,10,11,12,13],[0]),([14,0,1,2,3,4,5,6,7,8,9,10,11,12,13],[14]),([15,13,13,0,1,2,3,4,5,6,7,8,9,10,11,12,13],[13,15])])
def gone_2.B2:List Nat:=[0,0,2,6,14,0,0,64,192,448,0,1024,4064,8190,16383,32767,65535]
theorem gone_2.tab2:rtab .any (opsOf Try.f36 2)=gone_2.T2:=by kernel_rfl
theorem gone_2.bits2:waitsOk gone_2.T2.2 gone_2.B2=true:=by kernel_rfl
def gone_8.T8:Bool × List (List Nat × List Nat):=(true,[([],[]),([],[]),([],[]),([2],[2]),([1,3],[1,3]),([4],[4]),([5],[5]),([5],[5]),([6,7,5],[5,6,7]),([8,5],[5,8]),([5],[5]),([10,5],[5,10]),([9,11,5],[5,9,11]),([5,12],[5,12]),([0,13,5],[0,13])])
def gone_8.B8:List Nat:=[0,0,0,4,14,30,62,62,254,510,62,1086,4094,8190,16383]
theorem gone_8.tab8:rtab .any (opsOf Try.f36 8)=gone_8.T8:=by kernel_rfl
theorem gone_8.bits8:waitsOk gone_8.T8.2 gone_8.B8=true:=by kernel_rfl
def gone_11.T11:Bool × List (List Nat × List Nat):=(true,[([],[]),([],[]),([1],[1]),([2],[2]),([3],[3]),([],[]),([5],[5]),([6],[6]),([4,7],[4,7]),([0,0,1,2,3,4,5,6,7,8],[0]),([9,0,1,2,3,4,5,6,7,8],[9]),([10,8,8,0,1,2,3,4,5,6,7,8],[8,10])])
def gone_11.B11:List Nat:=[0,0,2,6,14,0,32,96,254,511,1023,2047]
theorem gone_11.tab11:rtab .any (opsOf Try.f36 11)=gone_11.T11:=by kernel_rfl
theorem gone_11.bits11:waitsOk gone_11.T11.2 gone_11.B11=true:=by kernel_rfl
set_option maxRecDepth 100000 in
set_option maxHeartbeats 40000000 in
theorem one_calls (w:World) (b:Nat) (A0:Option Addr) (c0:Nat) (a:List ByteArray) (h0 h1 h2 h3:Int) (A4:Option Addr) (c4:Nat) (L:List ByteArray) (v:Value) (done:Nat) (out:List ByteArray) (W:World)
  (hW:ABox w b v (done:Int) 0 out W) (hra:Kd.C Kd.string w A0 a.length a) (hca:a.length≤c0) (hrl:Kd.C Kd.string w A4 L.length L) (hcl:L.length≤c4) (hd:(done:Int)≤h0) (hda:done≤a.length) (hne:∀ s ∈ L,0<s.size)
  (hal:a.length≤1099511627776) (hll:L.length≤1099511627776) (hol:out.length≤1099511627776) :
  Calls Try.prog 36 #[.pointer (some ⟨b,0,none⟩),.slice A0 a.length c0,.agg #[.int .i64 h0,.int .i64 h1,.int .i64 h2,.int .i64 h3,.slice A4 L.length c4]] W (OneEnd w b (oneP a done h0 L out)):=by
 have hu1:=Try.underlying41
 have hu2:=Try.underlying46
 have HW:=Aside0.mk hW
 have HRA:=Aside0.mk hra
 have HCA:=Aside0.mk hca
 have HRL:=Aside0.mk hrl
 have HCL:=Aside0.mk hcl
 have HNE:=Aside0.mk hne
 clear hW hra hca hrl hcl hne
 by_cases hA:h0≤(a.length:Int)
 rotate_left
 ·have f1:decide (h0≤(a.length:Int))=false:=decide_eq_false hA
  have hr:oneP a done h0 L out=none:=by rw [oneP,if_neg hA]
  rw [hr]
  have HX:=Aside0.mk (HW.out.alloc (.cells #[.int .i64 h0,.int .i64 h1,.int .i64 h2,.int .i64 h3,.slice A4 L.length c4] 41 (0,0)))
  clear hr hd hA
  go_enter Try.func36,Try.ntmps36
  go_wp2_with (go_at_call 35;refine (must_no6 b 0 _ ((blk_cell HX.out.box 2).trans rfl) (blk_frozen HX.out.box 2)).mono ?_;rintro e w' ⟨⟨u,pv,rfl⟩,hb⟩;have HB:=Aside0.mk hb;clear hb)
  exact ⟨rfl,⟨_,_,rfl⟩,_,_,_,(HX.out.err 6).below HB.out⟩
 obtain ⟨q,rfl⟩:∃ q:Nat,h0=(q:Int):=⟨h0.toNat,by omega⟩
 have hq:q≤a.length:=by omega
 have hdq:done≤q:=by omega
 have f1:decide (q≤a.length)=true:=decide_eq_true hq
 have hr:oneP a done (q:Int) L out=lineP a q (out++(a.take q).drop done) L:=by rw [oneP,if_pos hA,Int.toNat_natCast]
 rw [hr]
 obtain ⟨Av,cv,ev⟩:=Kd.R_slice HW.out.row
 subst ev
 obtain ⟨A1,hs1,hC1,hl1⟩:=cutMidA A0 c0 a done q hdq hq HCA.out
 obtain ⟨y,hy⟩:∃ y,y=(a.take q).drop done:=⟨_,rfl⟩
 rw [← hy] at hs1 hC1 hl1 hr ⊢
 have HY:=Aside0.mk hy
 have hyl:y.length≤1099511627776:=by rw [hy,List.length_drop,List.length_take];omega
 obtain ⟨o1,ho1⟩:∃ o,o=out++y:=⟨_,rfl⟩
 have HO1:=Aside0.mk ho1
 have hol1:o1.length≤2199023255552:=by rw [ho1,List.length_append];omega
 rw [← ho1]
 clear ho1
 have HC1:=Aside0.mk hC1
 have HX:=Aside0.mk (HW.out.alloc (.cells #[.int .i64 (q:Int),.int .i64 h1,.int .i64 h2,.int .i64 h3,.slice A4 L.length c4] 41 (0,0)))
 have HH:=Aside0.mk (blk_new W (.cells #[.int .i64 (q:Int),.int .i64 h1,.int .i64 h2,.int .i64 h3,.slice A4 L.length c4] 41 (0,0)))
 clear hr hd hA hC1 hl1 hy
 go_enter Try.func36,Try.ntmps36
 go_upto_region 2 with (go_at_call 35;(with_reducible refine (must_yes _ _ _).mono ?_);rintro e w' ⟨rfl,rfl⟩)
 generalize W.alloc (.cells #[.int .i64 (q:Int),.int .i64 h1,.int .i64 h2,.int .i64 h3,.slice A4 L.length c4] 41 (0,0))=W1 at HX HH ⊢
 generalize W.heap.size=g at HH ⊢
 have HHd:=Aside0.mk (blk_below HH.out (below_drew (Below.refl _ _)))
 have HX3:=Aside0.mk HX.out.drew
 have hz0:W1.drew.cell? ⟨b,0,none⟩=some (.slice Av out.length cv):=(blk_cell HX3.out.box 0).trans rfl
 have hz1:W1.drew.cell? ⟨b,1,none⟩=some (.int .i64 (done:Int)):=(blk_cell HX3.out.box 1).trans rfl
 have hz2:=blk_frozen HX3.out.box 0
 have hz3:W1.drew.cell? ⟨g,0,none⟩=some (.int .i64 (q:Int)):=(blk_cell HHd.out 0).trans rfl
 refine start_ (n:=17) (S:=fun w'=>w'.cell? ⟨b,0,none⟩=some (.slice Av out.length cv)∧w'.cell? ⟨b,1,none⟩=some (.int .i64 (done:Int))∧w'.cell? ⟨g,0,none⟩=some (.int .i64 (q:Int))) (ds:=[16]) #[false,false,false,false,false,false,false,false,false,false,false,false,false,false,false,false,false] (by kernel_rfl) rfl rfl ⟨hz0,hz1,hz3⟩ (fun hHeld=>?_)
 refine with_tabW gone_2.tab2 gone_2.bits2 (fun HT_ HW_=>?_)
 generalize W1.drew=W2 at HX3 HHd hz0 hz1 hz2 hz3 hHeld ⊢
 refine pure_ (i:=0) (N:=some 16) (v:=?_) (a':=?_) #[true,false,false,false,false,false,false,false,false,false,false,false,false,false,false,false,false] rfl rfl (any_of HT_.out (by kernel_rfl)) (fun _ _ _ h=>h) (Or.inl ⟨by rfl,?_⟩) ?_ ?_
 rotate_left
 ·intro w'
  go_simp
  with_reducible rfl
 rotate_left
 ·simp only [Act.put,List.setIfInBounds_toArray,List.set_cons_zero,List.set_cons_succ,i64_w,i32_w]
  rfl
 refine pure_ (i:=1) (N:=some 17) (v:=?_) (a':=?_) #[true,true,false,false,false,false,false,false,false,false,false,false,false,false,false,false,false] rfl rfl (any_of HT_.out (by kernel_rfl)) (fun _ _ _ h=>h) (Or.inl ⟨by rfl,?_⟩) ?_ ?_
 rotate_left
 ·intro w'
  go_simp
  with_reducible rfl
 rotate_left
 ·simp only [Act.put,List.setIfInBounds_toArray,List.set_cons_zero,List.set_cons_succ,i64_w,i32_w]
  rfl
 refine pure_ (i:=2) (N:=some 18) (v:=?_) (a':=?_) #[true,true,true,false,false,false,false,false,false,false,false,false,false,false,false,false,false] rfl rfl (any_of HT_.out (by kernel_rfl)) (fun _ _ _ h=>h) (Or.inl ⟨by rfl,?_⟩) ?_ ?_
 rotate_left
 ·intro w'
  go_simp
  with_reducible rfl
 rotate_left
 ·simp only [Act.put,List.setIfInBounds_toArray,List.set_cons_zero,List.set_cons_succ,i64_w,i32_w]
  rfl
 refine pure_ (i:=3) (N:=some 19) (v:=?_) (a':=?_) #[true,true,true,true,false,false,false,false,false,false,false,false,false,false,false,false,false] rfl rfl (any_of HT_.out (by kernel_rfl)) (fun _ _ _ h=>h) (Or.inl ⟨by rfl,?_⟩) ?_ ?_
 rotate_left
 ·intro w'
  go_simp
  with_reducible rfl
 rotate_left
 ·simp only [Act.put,List.setIfInBounds_toArray,List.set_cons_zero,List.set_cons_succ,i64_w,i32_w]
  rfl
 refine pure_ (i:=5) (N:=some 21) (v:=?_) (a':=?_) #[true,true,true,true,false,true,false,false,false,false,false,false,false,false,false,false,false] rfl rfl (any_of HT_.out (by kernel_rfl)) (fun _ _ _ h=>h) (Or.inl ⟨by rfl,?_⟩) ?_ ?_
 rotate_left
 ·intro w'
  go_simp
  with_reducible rfl
 rotate_left
 ·simp only [Act.put,List.setIfInBounds_toArray,List.set_cons_zero,List.set_cons_succ,i64_w,i32_w]
  rfl
 refine pure_ (i:=6) (N:=some 22) (v:=?_) (a':=?_) #[true,true,true,true,false,true,true,false,false,false,false,false,false,false,false,false,false] rfl rfl (any_of HT_.out (by kernel_rfl)) (fun _ _ _ h=>h) (Or.inl ⟨by rfl,?_⟩) ?_ ?_
 rotate_left
 ·intro w'
  go_simp
  with_reducible rfl
 rotate_left
 ·simp only [Act.put,List.setIfInBounds_toArray,List.set_cons_zero,List.set_cons_succ,i64_w,i32_w]
  rfl
 refine pure_ (i:=7) (N:=some 23) (v:=?_) (a':=?_) #[true,true,true,true,false,true,true,true,false,false,false,false,false,false,false,false,false] rfl rfl (any_of HT_.out (by kernel_rfl)) (fun _ _ _ h=>h) (Or.inl ⟨by rfl,?_⟩) ?_ ?_
 rotate_left
 ·intro w'
  go_simp
  with_reducible rfl
 rotate_left
 ·simp only [Act.put,List.setIfInBounds_toArray,List.set_cons_zero,List.set_cons_succ,i64_w,i32_w]
  rfl
 refine pure_ (i:=8) (N:=some 24) (v:=?_) (a':=?_) #[true,true,true,true,false,true,true,true,true,false,false,false,false,false,false,false,false] rfl rfl (any_of HT_.out (by kernel_rfl)) (fun _ _ _ h=>h) (Or.inl ⟨by rfl,?_⟩) ?_ ?_
 rotate_left
 ·intro w'
  go_simp
  with_reducible rfl
 rotate_left
 ·simp only [Act.put,List.setIfInBounds_toArray,List.set_cons_zero,List.set_cons_succ,i64_w,i32_w]
  rfl
 refine pure_ (i:=10) (N:=some 26) (v:=?_) (a':=?_) #[true,true,true,true,false,true,true,true,true,false,true,false,false,false,false,false,false] rfl rfl (any_of HT_.out (by kernel_rfl)) (fun _ _ _ h=>h) (Or.inl ⟨by rfl,?_⟩) ?_ ?_
 rotate_left
 ·intro w'
  go_simp
  with_reducible rfl
 rotate_left
 ·simp only [Act.put,List.setIfInBounds_toArray,List.set_cons_zero,List.set_cons_succ,i64_w,i32_w]
  rfl
 refine take_ (i:=4) (N:=some 20) (v:=?_) (a':=?_) #[true,true,true,true,true,true,true,true,true,false,true,false,false,false,false,false,false] rfl rfl (take_ofW HT_.out HW_.out (by kernel_rfl)) (fun _ _ _ h=>h) (Or.inl ⟨by rfl,?_⟩) hHeld ?_ ?_
 rotate_left
 ·rintro w' ⟨s0,s1,s2⟩
  go_simp
  with_reducible rfl
 rotate_left
 ·simp only [Act.put,List.setIfInBounds_toArray,List.set_cons_zero,List.set_cons_succ,i64_w,i32_w]
  rfl
 refine take_ (i:=9) (N:=some 25) (v:=?_) (a':=?_) #[true,true,true,true,true,true,true,true,true,true,true,false,false,false,false,false,false] rfl rfl (take_ofW HT_.out HW_.out (by kernel_rfl)) (fun _ _ _ h=>h) (Or.inl ⟨by rfl,?_⟩) hHeld ?_ ?_
 rotate_left
 ·rintro w' ⟨s0,s1,s2⟩
  go_simp
  with_reducible rfl
 rotate_left
 ·simp only [Act.put,List.setIfInBounds_toArray,List.set_cons_zero,List.set_cons_succ,i64_w,i32_w]
  rfl
 refine take_ (i:=11) (N:=some 27) (v:=?_) (a':=?_) #[true,true,true,true,true,true,true,true,true,true,true,true,false,false,false,false,false] rfl rfl (take_ofW HT_.out HW_.out (by kernel_rfl)) (fun _ _ _ h=>h) (Or.inl ⟨by rfl,?_⟩) hHeld ?_ ?_
 rotate_left
 ·rintro w' ⟨s0,s1,s2⟩
  go_simp
  with_reducible rfl
 rotate_left
 ·simp only [Act.put,List.setIfInBounds_toArray,List.set_cons_zero,List.set_cons_succ,i64_w,i32_w]
  rfl
 refine pure_ (i:=12) (N:=some 28) (v:=?_) (a':=?_) #[true,true,true,true,true,true,true,true,true,true,true,true,true,false,false,false,false] rfl rfl (any_of HT_.out (by kernel_rfl)) (fun _ _ _ h=>h) (Or.inl ⟨by rfl,?_⟩) ?_ ?_
 rotate_left
 ·intro w'
  go_simp
  with_reducible rfl
 rotate_left
 ·simp only [Act.put,List.setIfInBounds_toArray,List.set_cons_zero,List.set_cons_succ,i64_w,i32_w]
  rfl
 refine one_ (i:=13) (N:=some 29) #[true,true,true,true,true,true,true,true,true,true,true,true,true,true,false,false,false] rfl rfl (one_of HT_.out (by kernel_rfl)) (by decide) (fun K hK=>?_)
 refine Kd.R_append_rows_step Kd.string (w0:=w) w.heap.size (by rfl) (.tmp 20) (.tmp 28) 22 9 (.string ⟨#[]⟩) 16 rfl Try.underlying22 ginfoStrA rfl (by decide) (by omega) (.slice Av out.length cv) out y _ _ _ (fun _=>True) (fun _=>False) rfl rfl HX3.out.row (HC1.out _ (Kd.C_below HRA.out HX3.out.bel)) (fun _ _ h=>h) (fun _ h=>h.elim) (fun _ _=>trivial) HX3.out.bel HX3.out.bel.size (by omega) ?_
 intro v2 w3 ho hb hg2 hat
 rw [← HO1.out] at ho
 obtain ⟨A3,c3,e3⟩:=Kd.R_slice ho
 subst e3
 obtain ⟨hbx,hab⟩:=HX3.out.step hg2 ho hb
 have hk0:=(blk_cell hbx 0).trans rfl
 have hk1:=(blk_cell hbx 1).trans rfl
 have hkf:=blk_frozen hbx 0
 have HX4:=Aside0.mk hab
 have HH4:=Aside0.mk (HX3.out.side hg2 HHd.out (by decide) (by decide) 0 (.slice A3 o1.length c3))
 have hk2:=(blk_cell (HX3.out.side0 hg2 HHd.out (by decide)) 0).trans rfl
 clear ho hb hg2 hat hbx hab hz0 hz1 hz3
 refine hK.out _ _ ⟨hk0,hk1,hk2⟩ (fun hHeld=>?_)
 clear hK K
 refine norm_ (a':=?_) ?_ ?_
 rotate_left
 ·show Act.put _ (some 29) _=_
  simp only [Act.put,List.setIfInBounds_toArray,List.set_cons_zero,List.set_cons_succ,i64_w,i32_w]
  rfl
 refine pure_ (i:=14) (N:=some 30) (v:=?_) (a':=?_) #[true,true,true,true,true,true,true,true,true,true,true,true,true,true,true,false,false] rfl rfl (any_of HT_.out (by kernel_rfl)) (fun _ _ _ h=>h) (Or.inl ⟨by rfl,?_⟩) ?_ ?_
 rotate_left
 ·intro w'
  go_simp
  with_reducible rfl
 rotate_left
 ·simp only [Act.put,List.setIfInBounds_toArray,List.set_cons_zero,List.set_cons_succ,i64_w,i32_w]
  rfl
 refine pure_ (i:=15) (N:=some 31) (v:=?_) (a':=?_) #[true,true,true,true,true,true,true,true,true,true,true,true,true,true,true,true,false] rfl rfl (any_of HT_.out (by kernel_rfl)) (fun _ _ _ h=>h) (Or.inl ⟨by rfl,?_⟩) ?_ ?_
 rotate_left
 ·intro w'
  go_simp
  with_reducible rfl
 rotate_left
 ·simp only [Act.put,List.setIfInBounds_toArray,List.set_cons_zero,List.set_cons_succ,i64_w,i32_w]
  rfl
 refine last_ (i:=16) (N:=none) #[true,true,true,true,true,true,true,true,true,true,true,true,true,true,true,true,true] rfl rfl (one_of HT_.out (by kernel_rfl)) (by decide) (fun K hK=>?_)
 refine skip_ (w1:=?_) (by rfl) rfl ?_ ?_
 rotate_left
 ·go_simp
  rfl
 refine hK.out _ _ ?_
 clear hK K
 refine done_ (done_of HT_.out (by kernel_rfl)) ?_

 clear hs1
 generalize w3.setCell ⟨b,0,none⟩ (.slice A3 o1.length c3)=w4 at HX4 HH4 ⊢
 have hz3:w4.cell? ⟨g,0,none⟩=some (.int .i64 (q:Int)):=(blk_cell HH4.out 0).trans rfl
 have hz4:w4.cell? ⟨g,4,none⟩=some (.slice A4 L.length c4):=(blk_cell HH4.out 4).trans rfl
 go_upto_block 0 with (fail)
 clear hz3 hz4
 go_wp2_with (fail)
 go_loopg [6,37] L.length (fun kq v6 v37 wr=>∃ (x p:Nat) (A3:Option Addr) (c3:Nat) (o:List ByteArray),v6=.int .i64 (p:Int)∧v37=.int .i64 (x:Int)∧Aside0 (x≤L.length∧L.length≤kq+x∧p≤a.length∧o.length≤o1.length+x)∧Aside0 (lineP a p o (L.drop x)=lineP a q o1 L)∧Aside0 (ABox w b (.slice A3 o.length c3) (done:Int) 0 o wr))
 case atStart=>exact ⟨0,q,A3,c3,o1,rfl,rfl,⟨by omega⟩,⟨rfl⟩,HX4⟩
 case round =>
  clear HX4 HX3 HX HW HH HHd HH4
  obtain ⟨x,p,A3,c3,o,rfl,rfl,HB,HQ,HX⟩:=hrel
  by_cases hend:x=L.length
  ·have f2:decide (x<L.length)=false:=decide_eq_false (by omega)
   have HQ2:=Aside0.mk (show lineP a q o1 L=some (o,p) by rw [← HQ.out,List.drop_of_length_le (by omega)];rfl)
   have hz1:wr.cell? ⟨b,1,none⟩=some (.int .i64 (done:Int)):=(blk_cell HX.out.box 1).trans rfl
   have hz2:=blk_frozen HX.out.box 1
   clear hend
   go_wp2
   go_end0
   rw [HQ2.out]
   exact ⟨rfl,_,HX.out.done_ _⟩
  ·have hxl:x<L.length:=by have:=HB.out;omega
   obtain ⟨gk',HG⟩:∃ m,Aside0 (gk=m+1):=⟨gk - 1,⟨by have:=HB.out;omega⟩⟩
   have f2:decide (x<L.length)=true:=decide_eq_true hxl
   obtain ⟨ad,ea,hw1⟩:=at_textA HRL.out x hxl
   cases ea
   obtain ⟨s1,hs1e⟩:∃ s1,s1=L[x]:=⟨_,rfl⟩
   rw [← hs1e] at hw1
   have HSL:=Aside0.mk (show L.drop x=s1 :: L.drop (x+1) by rw [hs1e];exact List.drop_eq_getElem_cons hxl)
   have hsp:0<s1.size:=by rw [hs1e];exact HNE.out _ (List.getElem_mem hxl)
   have hs1:=pw_cell_below HX.out.bel hw1
   have HS1:=Aside0.mk hw1
   obtain ⟨B,hB⟩:∃ B:Int,B=bt s1 0:=⟨_,rfl⟩
   have hx7:∀ h:0<s1.size,((s1[0]'h).toNat:Int)=B:=by rw [hB];exact bt_at s1 0
   have HBB:=Aside0.mk hB
   have q7:(0<s1.size)=True:=eq_true hsp
   have qi7:(0<(s1.size:Int))=True:=eq_true (by omega)
   have q8:(1≤s1.size)=True:=eq_true hsp
   have qi8:(1≤(s1.size:Int))=True:=eq_true (by omega)
   have HXL:=Aside0.mk hxl
   have hpl:p≤a.length:=HB.out.2.2.1
   have hol2:o.length≤4398046511104:=by have:=HB.out;omega
   have kx:IntKind.i64.wrap ((x:Int)+1)=(x:Int)+1:=IntWalk.i64_in _ (by omega)
   have kp:IntKind.i64.wrap ((p:Int)+1)=(p:Int)+1:=IntWalk.i64_in _ (by omega)
   obtain ⟨T,hT⟩:∃ T,T=tl s1:=⟨_,rfl⟩
   have kT:s1.extract 1 s1.size=T:=hT.symm
   have HT:=Aside0.mk hT
   clear hw1 hs1e hend hB hsp hT
   by_cases c1:B=43
   ·as_aux_lemma =>
    have c1a:(B == 43)=true:=beq_iff_eq.2 c1
    have c1b:(B != 43)=false:=bne_eq_false_iff_eq.2 c1
    have c1c:(B != 45)=true:=bne_iff_ne.2 (by omega)
    have c1d:(B == 45)=false:=beq_eq_false_iff_ne.2 (by omega)
    have HLP:=Aside0.mk (show lineP a p (o++[T]) (L.drop (x+1))=lineP a q o1 L by rw [← HQ.out,HSL.out,lineP,if_pos (by rw [← HBB.out];exact c1),HT.out])
    clear c1 kp
    go_wp2
    have HX3:=Aside0.mk HX.out.drew
    have hz0:wr.drew.cell? ⟨b,0,none⟩=some (.slice A3 o.length c3):=(blk_cell HX3.out.box 0).trans rfl
    refine start_ (n:=12) (S:=fun w'=>w'.cell? ⟨b,0,none⟩=some (.slice A3 o.length c3)) (ds:=[11]) #[false,false,false,false,false,false,false,false,false,false,false,false] (by kernel_rfl) rfl rfl (hz0) (fun hHeld=>?_)
    refine with_tabW gone_11.tab11 gone_11.bits11 (fun HT_ HW_=>?_)
    generalize wr.drew=w2 at HX3 hz0 hHeld ⊢
    refine pure_ (i:=0) (N:=some 64) (v:=?_) (a':=?_) #[true,false,false,false,false,false,false,false,false,false,false,false] rfl rfl (any_of HT_.out (by kernel_rfl)) (fun _ _ _ h=>h) (Or.inl ⟨by rfl,?_⟩) ?_ ?_
    rotate_left
    ·intro w'
     go_simp
     with_reducible rfl
    rotate_left
    ·simp only [Act.put,List.setIfInBounds_toArray,List.set_cons_zero,List.set_cons_succ,i64_w,i32_w]
     rfl
    refine pure_ (i:=1) (N:=some 65) (v:=?_) (a':=?_) #[true,true,false,false,false,false,false,false,false,false,false,false] rfl rfl (any_of HT_.out (by kernel_rfl)) (fun _ _ _ h=>h) (Or.inl ⟨by rfl,?_⟩) ?_ ?_
    rotate_left
    ·intro w'
     go_simp
     with_reducible rfl
    rotate_left
    ·simp only [Act.put,List.setIfInBounds_toArray,List.set_cons_zero,List.set_cons_succ,i64_w,i32_w]
     rfl
    refine pure_ (i:=2) (N:=some 66) (v:=?_) (a':=?_) #[true,true,true,false,false,false,false,false,false,false,false,false] rfl rfl (any_of HT_.out (by kernel_rfl)) (fun _ _ _ h=>h) (Or.inl ⟨by rfl,?_⟩) ?_ ?_
    rotate_left
    ·intro w'
     go_simp
     with_reducible rfl
    rotate_left
    ·simp only [Act.put,List.setIfInBounds_toArray,List.set_cons_zero,List.set_cons_succ,i64_w,i32_w]
     rfl
    refine pure_ (i:=3) (N:=some 67) (v:=?_) (a':=?_) #[true,true,true,true,false,false,false,false,false,false,false,false] rfl rfl (any_of HT_.out (by kernel_rfl)) (fun _ _ _ h=>h) (Or.inl ⟨by rfl,?_⟩) ?_ ?_
    rotate_left
    ·intro w'
     go_simp
     with_reducible rfl
    rotate_left
    ·simp only [Act.put,List.setIfInBounds_toArray,List.set_cons_zero,List.set_cons_succ,i64_w,i32_w]
     rfl
    refine pure_ (i:=5) (N:=some 69) (v:=?_) (a':=?_) #[true,true,true,true,false,true,false,false,false,false,false,false] rfl rfl (any_of HT_.out (by kernel_rfl)) (fun _ _ _ h=>h) (Or.inl ⟨by rfl,?_⟩) ?_ ?_
    rotate_left
    ·intro w'
     go_simp
     with_reducible rfl
    rotate_left
    ·simp only [Act.put,List.setIfInBounds_toArray,List.set_cons_zero,List.set_cons_succ,i64_w,i32_w]
     rfl
    refine pure_ (i:=6) (N:=some 70) (v:=?_) (a':=?_) #[true,true,true,true,false,true,true,false,false,false,false,false] rfl rfl (any_of HT_.out (by kernel_rfl)) (fun _ _ _ h=>h) (Or.inl ⟨by rfl,?_⟩) ?_ ?_
    rotate_left
    ·intro w'
     go_simp
     with_reducible rfl
    rotate_left
    ·simp only [Act.put,List.setIfInBounds_toArray,List.set_cons_zero,List.set_cons_succ,i64_w,i32_w]
     rfl
    refine take_ (i:=4) (N:=some 68) (v:=?_) (a':=?_) #[true,true,true,true,true,true,true,false,false,false,false,false] rfl rfl (take_ofW HT_.out HW_.out (by kernel_rfl)) (fun _ _ _ h=>h) (Or.inl ⟨by rfl,?_⟩) hHeld ?_ ?_
    rotate_left
    ·intro w' s0
     go_simp
     with_reducible rfl
    rotate_left
    ·simp only [Act.put,List.setIfInBounds_toArray,List.set_cons_zero,List.set_cons_succ,i64_w,i32_w]
     rfl
    refine one_ (i:=7) (N:=some 71) #[true,true,true,true,true,true,true,true,false,false,false,false] rfl rfl (one_of HT_.out (by kernel_rfl)) (by decide) (fun K hK=>?_)
    refine value_ (w1:=?_) (v:=?_) (by rfl) rfl ?_ ?_
    rotate_left 2
    ·go_simp
     constructor
     ·rfl
     ·rfl
    refine hK.out _ _ ((pw_cell_below (below_alloc (Below.refl _ _) _) hz0)) (fun hHeld=>?_)
    clear hK K
    refine norm_ (a':=?_) ?_ ?_
    rotate_left
    ·show Act.put _ (some 71) _=_
     simp only [Act.put,List.setIfInBounds_toArray,List.set_cons_zero,List.set_cons_succ,i64_w,i32_w]
     rfl
    refine one_ (i:=8) (N:=some 72) #[true,true,true,true,true,true,true,true,true,false,false,false] rfl rfl (one_of HT_.out (by kernel_rfl)) (by decide) (fun K hK=>?_)
    refine Kd.R_append_step Kd.string (w0:=w) w.heap.size (by rfl) (.tmp 68) (.tmp 71) 22 9 (.string ⟨#[]⟩) 16 rfl Try.underlying22 ginfoStrA rfl (by decide) (by omega) (.slice A3 o.length c3) o T [.string T] (fun _=>True) (fun _=>False) rfl rfl rfl (fun _ h=>h.elim) (fun _ _=>trivial) HX3.out.row HX3.out.bel HX3.out.bel.size (by omega) ?_
    intro v2 w5 ho hb hg2 hat
    obtain ⟨A5,c5,e5⟩:=Kd.R_slice ho
    rw [List.length_append,List.length_singleton] at e5
    subst e5
    obtain ⟨hbx,hab⟩:=HX3.out.step hg2 ho hb
    have hk0:=(blk_cell hbx 0).trans rfl
    have hkf:=blk_frozen hbx 0
    have HX5:=Aside0.mk hab
    clear ho hb hg2 hat hbx hab hz0
    refine hK.out _ _ (hk0) (fun hHeld=>?_)
    clear hK K
    refine norm_ (a':=?_) ?_ ?_
    rotate_left
    ·show Act.put _ (some 72) _=_
     simp only [Act.put,List.setIfInBounds_toArray,List.set_cons_zero,List.set_cons_succ,i64_w,i32_w]
     rfl
    refine pure_ (i:=9) (N:=some 73) (v:=?_) (a':=?_) #[true,true,true,true,true,true,true,true,true,true,false,false] rfl rfl (any_of HT_.out (by kernel_rfl)) (fun _ _ _ h=>h) (Or.inl ⟨by rfl,?_⟩) ?_ ?_
    rotate_left
    ·intro w'
     go_simp
     with_reducible rfl
    rotate_left
    ·simp only [Act.put,List.setIfInBounds_toArray,List.set_cons_zero,List.set_cons_succ,i64_w,i32_w]
     rfl
    refine pure_ (i:=10) (N:=some 74) (v:=?_) (a':=?_) #[true,true,true,true,true,true,true,true,true,true,true,false] rfl rfl (any_of HT_.out (by kernel_rfl)) (fun _ _ _ h=>h) (Or.inl ⟨by rfl,?_⟩) ?_ ?_
    rotate_left
    ·intro w'
     go_simp
     with_reducible rfl
    rotate_left
    ·simp only [Act.put,List.setIfInBounds_toArray,List.set_cons_zero,List.set_cons_succ,i64_w,i32_w]
     rfl
    refine last_ (i:=11) (N:=none) #[true,true,true,true,true,true,true,true,true,true,true,true] rfl rfl (one_of HT_.out (by kernel_rfl)) (by decide) (fun K hK=>?_)
    refine skip_ (w1:=?_) (by rfl) rfl ?_ ?_
    rotate_left
    ·go_simp
     rfl
    refine hK.out _ _ ?_
    clear hK K
    refine done_ (done_of HT_.out (by kernel_rfl)) ?_

    go_wp2
    go_roundg gk'
    case measure=>have:=HG.out;omega
    case rel =>
     clear kx
     exact ⟨x+1,p,A5,c5,o++[T],rfl,by go_num,⟨by have:=HB.out;have:=HG.out;have:=HXL.out;rw [List.length_append,List.length_singleton];omega⟩,HLP,by rw [List.length_append,List.length_singleton];exact HX5⟩
   ·have c1a:(B == 43)=false:=beq_eq_false_iff_ne.2 c1
    have c1b:(B != 43)=true:=bne_iff_ne.2 c1
    by_cases c2:a[p]?=some T
    ·have hpa:p<a.length:=by
      rcases Nat.lt_or_ge p a.length with h|h
      ·exact h
      ·rw [List.getElem?_eq_none h] at c2;cases c2
     have hpT:a[p]=T:=by rw [List.getElem?_eq_getElem hpa] at c2;exact Option.some.inj c2
     obtain ⟨ad2,ea2,hw2⟩:=at_textA HRA.out p hpa
     cases ea2
     rw [hpT] at hw2
     have HX3:=Aside0.mk HX.out.drew
     have hs2:=pw_cell_below HX3.out.bel hw2
     have f3:decide (p<a.length)=true:=decide_eq_true hpa
     have f3':(p:Int)<(a.length:Int):=by omega
     have f4:(T.toList == T.toList)=true:=beq_self_eq_true _
     have HLP0:=Aside0.mk (show lineP a (p+1) (if B=45 then o else o++[T]) (L.drop (x+1))=lineP a q o1 L by rw [← HQ.out,HSL.out,lineP,← HBB.out,if_neg c1,← HT.out,if_pos c2])
     have HPA:=Aside0.mk hpa
     clear c1 c2 hpT hw2
     go_upto_region 8 with (fail)
     go_still_tail 14,(by kernel_rfl)
     change wpList _ _ _ _ _ wr.drew
     generalize wr.drew=w2 at HX3 hs2 ⊢
     go_upto_region 9 with (go_at_call 35;(with_reducible refine (must_yes _ _ _).mono ?_);rintro e w' ⟨rfl,rfl⟩)
     have HXd:=HX3
     clear HX3
     go_upto_region 10 with (fail)
     by_cases cm:B=45
     ·have c3a:(B == 45)=true:=beq_iff_eq.2 cm
      have c3b:(B != 45)=false:=bne_eq_false_iff_eq.2 cm
      have HLP:=Aside0.mk (show lineP a (p+1) o (L.drop (x+1))=lineP a q o1 L by rw [← HLP0.out,if_pos cm])
      clear cm HLP0
      go_wp2
      go_roundg gk'
      case measure=>have:=HG.out;omega
      case rel =>
       clear kx kp
       exact ⟨x+1,p+1,A3,c3,o,by go_num,by go_num,⟨by have:=HB.out;have:=HG.out;have:=HXL.out;have:=HPA.out;omega⟩,HLP,HXd⟩
     ·as_aux_lemma =>
      have c3a:(B == 45)=false:=beq_eq_false_iff_ne.2 cm
      have c3b:(B != 45)=true:=bne_iff_ne.2 cm
      have HLP:=Aside0.mk (show lineP a (p+1) (o++[T]) (L.drop (x+1))=lineP a q o1 L by rw [← HLP0.out,if_neg cm])
      clear cm HLP0
      go_wp2
      have HX3:=Aside0.mk HXd.out.drew
      have hz0:w'.drew.cell? ⟨b,0,none⟩=some (.slice A3 o.length c3):=(blk_cell HX3.out.box 0).trans rfl
      refine start_ (n:=12) (S:=fun w'=>w'.cell? ⟨b,0,none⟩=some (.slice A3 o.length c3)) (ds:=[11]) #[false,false,false,false,false,false,false,false,false,false,false,false] (by kernel_rfl) rfl rfl (hz0) (fun hHeld=>?_)
      refine with_tabW gone_11.tab11 gone_11.bits11 (fun HT_ HW_=>?_)
      generalize w'.drew=w8 at HX3 hz0 hHeld ⊢
      refine pure_ (i:=0) (N:=some 64) (v:=?_) (a':=?_) #[true,false,false,false,false,false,false,false,false,false,false,false] rfl rfl (any_of HT_.out (by kernel_rfl)) (fun _ _ _ h=>h) (Or.inl ⟨by rfl,?_⟩) ?_ ?_
      rotate_left
      ·intro w'
       go_simp
       with_reducible rfl
      rotate_left
      ·simp only [Act.put,List.setIfInBounds_toArray,List.set_cons_zero,List.set_cons_succ,i64_w,i32_w]
       rfl
      refine pure_ (i:=1) (N:=some 65) (v:=?_) (a':=?_) #[true,true,false,false,false,false,false,false,false,false,false,false] rfl rfl (any_of HT_.out (by kernel_rfl)) (fun _ _ _ h=>h) (Or.inl ⟨by rfl,?_⟩) ?_ ?_
      rotate_left
      ·intro w'
       go_simp
       with_reducible rfl
      rotate_left
      ·simp only [Act.put,List.setIfInBounds_toArray,List.set_cons_zero,List.set_cons_succ,i64_w,i32_w]
       rfl
      refine pure_ (i:=2) (N:=some 66) (v:=?_) (a':=?_) #[true,true,true,false,false,false,false,false,false,false,false,false] rfl rfl (any_of HT_.out (by kernel_rfl)) (fun _ _ _ h=>h) (Or.inl ⟨by rfl,?_⟩) ?_ ?_
      rotate_left
      ·intro w'
       go_simp
       with_reducible rfl
      rotate_left
      ·simp only [Act.put,List.setIfInBounds_toArray,List.set_cons_zero,List.set_cons_succ,i64_w,i32_w]
       rfl
      refine pure_ (i:=3) (N:=some 67) (v:=?_) (a':=?_) #[true,true,true,true,false,false,false,false,false,false,false,false] rfl rfl (any_of HT_.out (by kernel_rfl)) (fun _ _ _ h=>h) (Or.inl ⟨by rfl,?_⟩) ?_ ?_
      rotate_left
      ·intro w'
       go_simp
       with_reducible rfl
      rotate_left
      ·simp only [Act.put,List.setIfInBounds_toArray,List.set_cons_zero,List.set_cons_succ,i64_w,i32_w]
       rfl
      refine pure_ (i:=5) (N:=some 69) (v:=?_) (a':=?_) #[true,true,true,true,false,true,false,false,false,false,false,false] rfl rfl (any_of HT_.out (by kernel_rfl)) (fun _ _ _ h=>h) (Or.inl ⟨by rfl,?_⟩) ?_ ?_
      rotate_left
      ·intro w'
       go_simp
       with_reducible rfl
      rotate_left
      ·simp only [Act.put,List.setIfInBounds_toArray,List.set_cons_zero,List.set_cons_succ,i64_w,i32_w]
       rfl
      refine pure_ (i:=6) (N:=some 70) (v:=?_) (a':=?_) #[true,true,true,true,false,true,true,false,false,false,false,false] rfl rfl (any_of HT_.out (by kernel_rfl)) (fun _ _ _ h=>h) (Or.inl ⟨by rfl,?_⟩) ?_ ?_
      rotate_left
      ·intro w'
       go_simp
       with_reducible rfl
      rotate_left
      ·simp only [Act.put,List.setIfInBounds_toArray,List.set_cons_zero,List.set_cons_succ,i64_w,i32_w]
       rfl
      refine take_ (i:=4) (N:=some 68) (v:=?_) (a':=?_) #[true,true,true,true,true,true,true,false,false,false,false,false] rfl rfl (take_ofW HT_.out HW_.out (by kernel_rfl)) (fun _ _ _ h=>h) (Or.inl ⟨by rfl,?_⟩) hHeld ?_ ?_
      rotate_left
      ·intro w' s0
       go_simp
       with_reducible rfl
      rotate_left
      ·simp only [Act.put,List.setIfInBounds_toArray,List.set_cons_zero,List.set_cons_succ,i64_w,i32_w]
       rfl
      refine one_ (i:=7) (N:=some 71) #[true,true,true,true,true,true,true,true,false,false,false,false] rfl rfl (one_of HT_.out (by kernel_rfl)) (by decide) (fun K hK=>?_)
      refine value_ (w1:=?_) (v:=?_) (by rfl) rfl ?_ ?_
      rotate_left 2
      ·go_simp
       constructor
       ·rfl
       ·rfl
      refine hK.out _ _ ((pw_cell_below (below_alloc (Below.refl _ _) _) hz0)) (fun hHeld=>?_)
      clear hK K
      refine norm_ (a':=?_) ?_ ?_
      rotate_left
      ·show Act.put _ (some 71) _=_
       simp only [Act.put,List.setIfInBounds_toArray,List.set_cons_zero,List.set_cons_succ,i64_w,i32_w]
       rfl
      refine one_ (i:=8) (N:=some 72) #[true,true,true,true,true,true,true,true,true,false,false,false] rfl rfl (one_of HT_.out (by kernel_rfl)) (by decide) (fun K hK=>?_)
      refine Kd.R_append_step Kd.string (w0:=w) w.heap.size (by rfl) (.tmp 68) (.tmp 71) 22 9 (.string ⟨#[]⟩) 16 rfl Try.underlying22 ginfoStrA rfl (by decide) (by omega) (.slice A3 o.length c3) o T [.string T] (fun _=>True) (fun _=>False) rfl rfl rfl (fun _ h=>h.elim) (fun _ _=>trivial) HX3.out.row HX3.out.bel HX3.out.bel.size (by omega) ?_
      intro v2 w5 ho hb hg2 hat
      obtain ⟨A5,c5,e5⟩:=Kd.R_slice ho
      rw [List.length_append,List.length_singleton] at e5
      subst e5
      obtain ⟨hbx,hab⟩:=HX3.out.step hg2 ho hb
      have hk0:=(blk_cell hbx 0).trans rfl
      have hkf:=blk_frozen hbx 0
      have HX5:=Aside0.mk hab
      clear ho hb hg2 hat hbx hab hz0
      refine hK.out _ _ (hk0) (fun hHeld=>?_)
      clear hK K
      refine norm_ (a':=?_) ?_ ?_
      rotate_left
      ·show Act.put _ (some 72) _=_
       simp only [Act.put,List.setIfInBounds_toArray,List.set_cons_zero,List.set_cons_succ,i64_w,i32_w]
       rfl
      refine pure_ (i:=9) (N:=some 73) (v:=?_) (a':=?_) #[true,true,true,true,true,true,true,true,true,true,false,false] rfl rfl (any_of HT_.out (by kernel_rfl)) (fun _ _ _ h=>h) (Or.inl ⟨by rfl,?_⟩) ?_ ?_
      rotate_left
      ·intro w'
       go_simp
       with_reducible rfl
      rotate_left
      ·simp only [Act.put,List.setIfInBounds_toArray,List.set_cons_zero,List.set_cons_succ,i64_w,i32_w]
       rfl
      refine pure_ (i:=10) (N:=some 74) (v:=?_) (a':=?_) #[true,true,true,true,true,true,true,true,true,true,true,false] rfl rfl (any_of HT_.out (by kernel_rfl)) (fun _ _ _ h=>h) (Or.inl ⟨by rfl,?_⟩) ?_ ?_
      rotate_left
      ·intro w'
       go_simp
       with_reducible rfl
      rotate_left
      ·simp only [Act.put,List.setIfInBounds_toArray,List.set_cons_zero,List.set_cons_succ,i64_w,i32_w]
       rfl
      refine last_ (i:=11) (N:=none) #[true,true,true,true,true,true,true,true,true,true,true,true] rfl rfl (one_of HT_.out (by kernel_rfl)) (by decide) (fun K hK=>?_)
      refine skip_ (w1:=?_) (by rfl) rfl ?_ ?_
      rotate_left
      ·go_simp
       rfl
      refine hK.out _ _ ?_
      clear hK K
      refine done_ (done_of HT_.out (by kernel_rfl)) ?_

      go_wp2
      go_roundg gk'
      case measure=>have:=HG.out;omega
      case rel =>
       clear kx kp
       exact ⟨x+1,p+1,A5,c5,o++[T],by go_num,by go_num,⟨by have:=HB.out;have:=HG.out;have:=HXL.out;have:=HPA.out;rw [List.length_append,List.length_singleton];omega⟩,HLP,by rw [List.length_append,List.length_singleton];exact HX5⟩
    ·have HN:=Aside0.mk (show lineP a q o1 L=none by rw [← HQ.out,HSL.out,lineP,← HBB.out,if_neg c1,← HT.out,if_neg c2])
     have HX3:=Aside0.mk HX.out.drew
     have hz5:wr.drew.cell? ⟨b,2,none⟩=some (.int .i64 0):=(blk_cell HX3.out.box 2).trans rfl
     have hz6:=blk_frozen HX3.out.box 2
     by_cases hpa:p<a.length
     ·obtain ⟨t1,ht1⟩:∃ t,t=a[p]:=⟨_,rfl⟩
      have f4:(t1.toList == T.toList)=false:=(Lib.bytes_beq_false_iff _ _).2 (fun h=>c2 (by rw [List.getElem?_eq_getElem hpa,← ht1,h]))
      obtain ⟨ad2,ea2,hw2⟩:=at_textA HRA.out p hpa
      cases ea2
      rw [← ht1] at hw2
      have hs2:=pw_cell_below HX3.out.bel hw2
      have f3:decide (p<a.length)=true:=decide_eq_true hpa
      have f3':(p:Int)<(a.length:Int):=by omega
      clear c1 c2 ht1 hw2 hpa
      go_upto_region 8 with (fail)
      go_still_tail 14,(by kernel_rfl)
      change wpList _ _ _ _ _ wr.drew
      generalize wr.drew=w2 at HX3 hs2 hz5 hz6 ⊢
      go_wp2_with (go_at_call 35;refine (must_no6 b 0 _ hz5 hz6).mono ?_;rintro e w' ⟨⟨u,pv,rfl⟩,hb⟩;have HBb:=Aside0.mk hb;clear hb)
      refine ⟨rfl,?_⟩
      rw [HN.out]
      exact ⟨⟨_,_,rfl⟩,_,_,_,(HX3.out.err 6).below HBb.out⟩
     ·obtain ⟨zb,hzb⟩:∃ zb:Bool,false=zb:=⟨_,rfl⟩
      have f3:decide (p<a.length)=zb:=by rw [← hzb];exact decide_eq_false hpa
      have fz:(zb=true)=False:=by rw [← hzb];simp
      have HZB:=Aside0.mk hzb
      clear hzb
      clear c1 c2 hpa
      go_upto_region 8 with (fail)
      refine wp_region_still_tail 14 (by kernel_rfl) (by kernel_rfl) ?_
      simp only [List.take_succ_cons,List.take_zero,List.drop_succ_cons,List.drop_zero]
      iterate 13 still_step
      obtain rfl:=HZB.out
      clear fz
      still_step
      refine wpStill_nil ?_
      change wpList _ _ _ _ _ wr.drew
      generalize wr.drew=w2 at HX3 hz5 hz6 ⊢
      go_wp2_with (go_at_call 35;refine (must_no6 b 0 _ hz5 hz6).mono ?_;rintro e w' ⟨⟨u,pv,rfl⟩,hb⟩;have HBb:=Aside0.mk hb;clear hb)
      refine ⟨rfl,?_⟩
      rw [HN.out]
      exact ⟨⟨_,_,rfl⟩,_,_,_,(HX3.out.err 6).below HBb.out⟩
end Go.Proofs.Ytoaijganmfijmaa.Pr
-- shrunk
/-
apply's all and Apply: hunks done to lines, and what is told if they can't be.
-/
namespace Go.Proofs.Ytoaijganmfijmaa.Pr
open Go.RowKit Go.Proofs.YtoaijganmfijmaaW.PrintWords Go.Proofs.YtoaijganmfijmaaW.PrintLast Go.Proofs.YtoaijganmfijmaaW.PrintMore
theorem ABox.nil {w:World} {b:Nat} {v:Value} {done e:Int} {out:List ByteArray} {wr:World} (h:ABox w b v done e out wr):ABox w b (.slice none 0 0) done e [] (wr.setCell ⟨b,0,none⟩ (.slice none 0 0)) :=
 ⟨blk_put h.box 0 _ rfl,Kd.R_nil _ _ _ _ _,h.new_,(h.put 0 _).2⟩
theorem at_hkA {w:World} {A:Option Addr} {xs:List Hk} (h:Kd.C k41 w A xs.length xs) (i:Nat) (hi:i<xs.length) :
  ∃ ad A4 c4,A=some ad∧w.cell? (ad.add (i * 5))=some (.int .i64 (xs[i]).f0)∧w.cell? ⟨(ad.add (i * 5)).block,(ad.add (i * 5)).off+1,none⟩=some (.int .i64 (xs[i]).f1) ∧
   w.cell? ⟨(ad.add (i * 5)).block,(ad.add (i * 5)).off+2,none⟩=some (.int .i64 (xs[i]).f2)∧w.cell? ⟨(ad.add (i * 5)).block,(ad.add (i * 5)).off+3,none⟩=some (.int .i64 (xs[i]).f3) ∧
   w.cell? ⟨(ad.add (i * 5)).block,(ad.add (i * 5)).off+4,none⟩=some (.slice A4 (xs[i]).f4.length c4)∧(xs[i]).f4.length≤c4∧Kd.C Kd.string w A4 (xs[i]).f4.length (xs[i]).f4:=by
 have h2:=at_T41 h (i:Int) (by omega) (by omega)
 rw [rdH_at hi] at h2
 exact h2
theorem cutEndA (A:Option Addr) (c:Nat) (xs:List ByteArray) (lo:Nat) (h1:lo≤xs.length) (hc:xs.length≤c) :
  ∃ A':Option Addr,(∀ W:World,(Instr.slice 22 (.slice A xs.length c) (some (.int .i64 (lo:Int))) none none).run Try.prog W=.ok (.slice A' (xs.drop lo).length (c - lo)) W) ∧
   (∀ w:World,Kd.C Kd.string w A xs.length xs→Kd.C Kd.string w A' (xs.drop lo).length (xs.drop lo))∧(xs.drop lo).length≤c - lo:=by
 obtain ⟨i0,hi0,hz⟩:=Option.map_eq_some_iff.1 ginfoStrA
 simp only [Prod.mk.injEq] at hz
 refine ⟨_,fun W=>?_,fun w h=>Kd.C_drop (c:=c) h h1 hc,by rw [List.length_drop];omega⟩
 have h:=cut_from (P:=Try.prog) 22 9 .i64 Try.underlying22 hi0 1 hz.2.1 A xs.length c (lo:Int) (Int.natCast_nonneg _) (by omega) W
 rw [Int.toNat_natCast] at h
 rw [h,List.length_drop]
 rfl
def gall_7.T7:Bool × List (List Nat × List Nat):=(true,[([],[]),([],[]),([1],[1]),([2],[2]),([3],[3]),([],[]),([],[]),([6],[6]),([7],[7]),([8],[8]),([5,9],[5,9]),([4,10],[4,10]),([0,0,1,2,3,4,5,6,7,8,9,10,11],[0]),([12,0,1,2,3,4,5,6,7,8,9,10,11],[12]),([13,11,11,0,1,2,3,4,5,6,7,8,9,10,11],[11,13])])
def gall_7.B7:List Nat:=[0,0,2,6,14,0,0,64,192,448,992,2046,4095,8191,16383]
theorem gall_7.tab7:rtab .any (opsOf Try.f23 7)=gall_7.T7:=by kernel_rfl
theorem gall_7.bits7:waitsOk gall_7.T7.2 gall_7.B7=true:=by kernel_rfl
set_option maxRecDepth 100000 in
set_option maxHeartbeats 40000000 in
theorem all_calls (w:World) (b:Nat) (A0:Option Addr) (c0:Nat) (a:List ByteArray) (A1:Option Addr) (c1:Nat) (l:List Hk) (W:World)
  (hW:ABox w b (.slice none 0 0) 0 0 [] W) (hra:Kd.C Kd.string w A0 a.length a) (hca:a.length≤c0) (hrl:Kd.C k41 w A1 l.length l) (hcl:l.length≤c1) (hs:SmallA a l) :
  Calls Try.prog 23 #[.pointer (some ⟨b,0,none⟩),.slice A0 a.length c0,.slice A1 l.length c1] W (fun e w'=>e=.returned (.tuple #[])∧∃ v d,ABox w b v d (applyP a l).2 (applyP a l).1 w'):=by
 have hu1:=Try.underlying41
 have hu2:=Try.underlying46
 have hmf:∀ (fn:Fn) (first cap:Array Value) (w:World),(Instr.makeFunc fn first cap).run Try.prog w=.ok (.func fn first cap) w:=fun _ _ _ _=>rfl
 obtain ⟨k,hk⟩:=(ARight_ev hs).rounds
 have hla:a.length≤65536:=hs.1
 have hll:l.length≤1024:=hs.2.1
 have HK:=Aside0.mk hk
 have HS:=Aside0.mk hs
 have HW:=Aside0.mk hW
 have HRA:=Aside0.mk hra
 have HCA:=Aside0.mk hca
 have HRL:=Aside0.mk hrl
 have HCL:=Aside0.mk hcl
 clear hW hra hca hrl hcl hs hk
 cases hok:rightP 0 0 l with
 | false =>
  have HAP:=Aside0.mk (show applyP a l=([],3) by rw [applyP,hok];rfl)
  rw [HAP.out]
  rw [hok] at HK
  go_enter_defers Try.func23,Try.ntmps23
  go_wp2_with (first
   | (go_at_call 15;(with_reducible refine (apply_Right.calls k _ _ l false _ (Kd.C_below HRL.out HW.out.bel) HCL.out HK.out).mono ?_);rintro e w1 ⟨rfl,hb⟩;have HX:=Aside0.mk (HW.out.below hb);clear hb)
   | (go_at_call 35;refine (must_no3 b 0 _ ((blk_cell HX.out.box 2).trans rfl) (blk_frozen HX.out.box 2)).mono ?_;rintro e w' ⟨⟨u,pv,rfl⟩,hb⟩;have HY:=Aside0.mk ((HX.out.err 3).below hb);clear hb))
  refine leaves_cons (f:=34) (args:=#[.pointer (some ⟨b,0,none⟩)]) (by simp) (by simp [go_sem]) ?_
  refine (catch_panicking b _ u pv [] _ ((blk_cell HY.out.box 0).trans rfl) rfl (blk_frozen HY.out.box 0)).mono ?_
  rintro e u' w'' ⟨rfl,rfl,rfl⟩
  have HZ:=HY.out.nil
  simp [Leaves,settle,results,Try.results23,go_sem]
  exact ⟨_,_,HZ⟩
 | true =>
  rw [hok] at HK
  obtain ⟨R,hR⟩:∃ R,R=applyP a l:=⟨_,rfl⟩
  have HAP:=Aside0.mk (show R=(match allP a 0 [] l with|none=>([],6)|some (o,d)=>(o++a.drop d,0)) by rw [hR,applyP,hok];rfl)
  rw [← hR]
  have HOK:=Aside0.mk hok
  clear hR hok
  go_enter_defers Try.func23,Try.ntmps23
  go_upto_block 0 with (first
   | (go_at_call 15;(with_reducible refine (apply_Right.calls k _ _ l true _ (Kd.C_below HRL.out HW.out.bel) HCL.out HK.out).mono ?_);rintro e w1 ⟨rfl,hb⟩;have HX:=Aside0.mk (HW.out.below hb);clear hb)
   | (go_at_call 35;(with_reducible refine (must_yes _ _ _).mono ?_);rintro e w' ⟨rfl,rfl⟩))
  go_wp2_with (fail)
  go_loopg [15] l.length (fun kq v15 wr=>∃ (x d:Nat) (A3:Option Addr) (c3:Nat) (o:List ByteArray),v15=.int .i64 (x:Int)∧Aside0 (x≤l.length∧l.length≤kq+x∧d≤a.length∧o.length≤x * 131072)∧Aside0 (allP a d o (l.drop x)=allP a 0 [] l)∧Aside0 (∃ more,rightP (d:Int) more (l.drop x)=true)∧Aside0 (ABox w b (.slice A3 o.length c3) (d:Int) 0 o wr))
  case atStart=>exact ⟨0,0,none,0,[],rfl,⟨Nat.zero_le _,by omega,Nat.zero_le _,by simp⟩,⟨rfl⟩,⟨0,HOK.out⟩,HX⟩
  case round =>
   clear HX HOK
   obtain ⟨x,d,A3,c3,o,rfl,HB,HQ,HR,HX⟩:=hrel
   by_cases hend:x=l.length
   ·as_aux_lemma =>
    have f2:decide (x<l.length)=false:=decide_eq_false (by omega)
    have HR2:=Aside0.mk (show R=(o++a.drop d,0) by rw [HAP.out,← HQ.out,List.drop_of_length_le (by omega)];rfl)
    have hol:o.length≤134217728:=by have:=HB.out;omega
    have hda:d≤a.length:=HB.out.2.2.1
    obtain ⟨A2,hs1,hC1,hl1⟩:=cutEndA A0 c0 a d hda HCA.out
    obtain ⟨y,hy⟩:∃ y,y=a.drop d:=⟨_,rfl⟩
    have hyl:y.length≤65536:=by rw [hy,List.length_drop];omega
    rw [← hy] at hs1 hC1 hl1 HR2
    obtain ⟨o1,ho1⟩:∃ o1,o1=o++y:=⟨_,rfl⟩
    rw [← ho1] at HR2
    have HO1:=Aside0.mk ho1
    have HC1:=Aside0.mk hC1
    clear hend hy hC1 hl1 ho1
    go_wp2_with (fail)
    refine wp_region_noPanic ?_
    have HX3:=Aside0.mk HX.out.drew
    have hz0:wr.drew.cell? ⟨b,0,none⟩=some (.slice A3 o.length c3):=(blk_cell HX3.out.box 0).trans rfl
    have hz1:wr.drew.cell? ⟨b,1,none⟩=some (.int .i64 (d:Int)):=(blk_cell HX3.out.box 1).trans rfl
    have hz2:=blk_frozen HX3.out.box 0
    refine start_ (n:=15) (S:=fun w'=>w'.cell? ⟨b,0,none⟩=some (.slice A3 o.length c3)∧w'.cell? ⟨b,1,none⟩=some (.int .i64 (d:Int))) (ds:=[14]) #[false,false,false,false,false,false,false,false,false,false,false,false,false,false,false] (by kernel_rfl) rfl rfl ⟨hz0,hz1⟩ (fun hHeld=>?_)
    refine with_tabW gall_7.tab7 gall_7.bits7 (fun HT_ HW_=>?_)
    generalize wr.drew=W2 at HX3 hz0 hz1 hz2 hHeld ⊢
    refine pure_ (i:=0) (N:=some 24) (v:=?_) (a':=?_) #[true,false,false,false,false,false,false,false,false,false,false,false,false,false,false] rfl rfl (any_of HT_.out (by kernel_rfl)) (fun _ _ _ h=>h) (Or.inl ⟨by rfl,?_⟩) ?_ ?_
    rotate_left
    ·intro w'
     go_simp
     with_reducible rfl
    rotate_left
    ·simp only [Act.put,List.setIfInBounds_toArray,List.set_cons_zero,List.set_cons_succ,i64_w,i32_w]
     rfl
    refine pure_ (i:=1) (N:=some 25) (v:=?_) (a':=?_) #[true,true,false,false,false,false,false,false,false,false,false,false,false,false,false] rfl rfl (any_of HT_.out (by kernel_rfl)) (fun _ _ _ h=>h) (Or.inl ⟨by rfl,?_⟩) ?_ ?_
    rotate_left
    ·intro w'
     go_simp
     with_reducible rfl
    rotate_left
    ·simp only [Act.put,List.setIfInBounds_toArray,List.set_cons_zero,List.set_cons_succ,i64_w,i32_w]
     rfl
    refine pure_ (i:=2) (N:=some 26) (v:=?_) (a':=?_) #[true,true,true,false,false,false,false,false,false,false,false,false,false,false,false] rfl rfl (any_of HT_.out (by kernel_rfl)) (fun _ _ _ h=>h) (Or.inl ⟨by rfl,?_⟩) ?_ ?_
    rotate_left
    ·intro w'
     go_simp
     with_reducible rfl
    rotate_left
    ·simp only [Act.put,List.setIfInBounds_toArray,List.set_cons_zero,List.set_cons_succ,i64_w,i32_w]
     rfl
    refine pure_ (i:=3) (N:=some 27) (v:=?_) (a':=?_) #[true,true,true,true,false,false,false,false,false,false,false,false,false,false,false] rfl rfl (any_of HT_.out (by kernel_rfl)) (fun _ _ _ h=>h) (Or.inl ⟨by rfl,?_⟩) ?_ ?_
    rotate_left
    ·intro w'
     go_simp
     with_reducible rfl
    rotate_left
    ·simp only [Act.put,List.setIfInBounds_toArray,List.set_cons_zero,List.set_cons_succ,i64_w,i32_w]
     rfl
    refine pure_ (i:=5) (N:=some 29) (v:=?_) (a':=?_) #[true,true,true,true,false,true,false,false,false,false,false,false,false,false,false] rfl rfl (any_of HT_.out (by kernel_rfl)) (fun _ _ _ h=>h) (Or.inl ⟨by rfl,?_⟩) ?_ ?_
    rotate_left
    ·intro w'
     go_simp
     with_reducible rfl
    rotate_left
    ·simp only [Act.put,List.setIfInBounds_toArray,List.set_cons_zero,List.set_cons_succ,i64_w,i32_w]
     rfl
    refine pure_ (i:=6) (N:=some 30) (v:=?_) (a':=?_) #[true,true,true,true,false,true,true,false,false,false,false,false,false,false,false] rfl rfl (any_of HT_.out (by kernel_rfl)) (fun _ _ _ h=>h) (Or.inl ⟨by rfl,?_⟩) ?_ ?_
    rotate_left
    ·intro w'
     go_simp
     with_reducible rfl
    rotate_left
    ·simp only [Act.put,List.setIfInBounds_toArray,List.set_cons_zero,List.set_cons_succ,i64_w,i32_w]
     rfl
    refine pure_ (i:=7) (N:=some 31) (v:=?_) (a':=?_) #[true,true,true,true,false,true,true,true,false,false,false,false,false,false,false] rfl rfl (any_of HT_.out (by kernel_rfl)) (fun _ _ _ h=>h) (Or.inl ⟨by rfl,?_⟩) ?_ ?_
    rotate_left
    ·intro w'
     go_simp
     with_reducible rfl
    rotate_left
    ·simp only [Act.put,List.setIfInBounds_toArray,List.set_cons_zero,List.set_cons_succ,i64_w,i32_w]
     rfl
    refine pure_ (i:=8) (N:=some 32) (v:=?_) (a':=?_) #[true,true,true,true,false,true,true,true,true,false,false,false,false,false,false] rfl rfl (any_of HT_.out (by kernel_rfl)) (fun _ _ _ h=>h) (Or.inl ⟨by rfl,?_⟩) ?_ ?_
    rotate_left
    ·intro w'
     go_simp
     with_reducible rfl
    rotate_left
    ·simp only [Act.put,List.setIfInBounds_toArray,List.set_cons_zero,List.set_cons_succ,i64_w,i32_w]
     rfl
    refine take_ (i:=4) (N:=some 28) (v:=?_) (a':=?_) #[true,true,true,true,true,true,true,true,true,false,false,false,false,false,false] rfl rfl (take_ofW HT_.out HW_.out (by kernel_rfl)) (fun _ _ _ h=>h) (Or.inl ⟨by rfl,?_⟩) hHeld ?_ ?_
    rotate_left
    ·rintro w' ⟨s0,s1⟩
     go_simp
     with_reducible rfl
    rotate_left
    ·simp only [Act.put,List.setIfInBounds_toArray,List.set_cons_zero,List.set_cons_succ,i64_w,i32_w]
     rfl
    refine take_ (i:=9) (N:=some 33) (v:=?_) (a':=?_) #[true,true,true,true,true,true,true,true,true,true,false,false,false,false,false] rfl rfl (take_ofW HT_.out HW_.out (by kernel_rfl)) (fun _ _ _ h=>h) (Or.inl ⟨by rfl,?_⟩) hHeld ?_ ?_
    rotate_left
    ·rintro w' ⟨s0,s1⟩
     go_simp
     with_reducible rfl
    rotate_left
    ·simp only [Act.put,List.setIfInBounds_toArray,List.set_cons_zero,List.set_cons_succ,i64_w,i32_w]
     rfl
    refine pure_ (i:=10) (N:=some 34) (v:=?_) (a':=?_) #[true,true,true,true,true,true,true,true,true,true,true,false,false,false,false] rfl rfl (any_of HT_.out (by kernel_rfl)) (fun _ _ _ h=>h) (Or.inl ⟨by rfl,?_⟩) ?_ ?_
    rotate_left
    ·intro w'
     go_simp
     with_reducible rfl
    rotate_left
    ·simp only [Act.put,List.setIfInBounds_toArray,List.set_cons_zero,List.set_cons_succ,i64_w,i32_w]
     rfl
    refine one_ (i:=11) (N:=some 35) #[true,true,true,true,true,true,true,true,true,true,true,true,false,false,false] rfl rfl (one_of HT_.out (by kernel_rfl)) (by decide) (fun K hK=>?_)
    refine Kd.R_append_rows_step Kd.string (w0:=w) w.heap.size (by rfl) (.tmp 28) (.tmp 34) 22 9 (.string ⟨#[]⟩) 16 rfl Try.underlying22 ginfoStrA rfl (by decide) (by omega) (.slice A3 o.length c3) o y _ _ _ (fun _=>True) (fun _=>False) rfl rfl HX3.out.row (HC1.out _ (Kd.C_below HRA.out HX3.out.bel)) (fun _ _ h=>h) (fun _ h=>h.elim) (fun _ _=>trivial) HX3.out.bel HX3.out.bel.size (by omega) ?_
    intro v2 w3 ho hb hg2 hat
    rw [← HO1.out] at ho
    obtain ⟨A5,c5,e5⟩:=Kd.R_slice ho
    subst e5
    obtain ⟨hbx,hab⟩:=HX3.out.step hg2 ho hb
    have hk0:=(blk_cell hbx 0).trans rfl
    have hk1:=(blk_cell hbx 1).trans rfl
    have hkf:=blk_frozen hbx 0
    have HX5:=Aside0.mk hab
    clear ho hb hg2 hat hbx hab hz0 hz1
    refine hK.out _ _ ⟨hk0,hk1⟩ (fun hHeld=>?_)
    clear hK K
    refine norm_ (a':=?_) ?_ ?_
    rotate_left
    ·show Act.put _ (some 35) _=_
     simp only [Act.put,List.setIfInBounds_toArray,List.set_cons_zero,List.set_cons_succ,i64_w,i32_w]
     rfl
    refine pure_ (i:=12) (N:=some 36) (v:=?_) (a':=?_) #[true,true,true,true,true,true,true,true,true,true,true,true,true,false,false] rfl rfl (any_of HT_.out (by kernel_rfl)) (fun _ _ _ h=>h) (Or.inl ⟨by rfl,?_⟩) ?_ ?_
    rotate_left
    ·intro w'
     go_simp
     with_reducible rfl
    rotate_left
    ·simp only [Act.put,List.setIfInBounds_toArray,List.set_cons_zero,List.set_cons_succ,i64_w,i32_w]
     rfl
    refine pure_ (i:=13) (N:=some 37) (v:=?_) (a':=?_) #[true,true,true,true,true,true,true,true,true,true,true,true,true,true,false] rfl rfl (any_of HT_.out (by kernel_rfl)) (fun _ _ _ h=>h) (Or.inl ⟨by rfl,?_⟩) ?_ ?_
    rotate_left
    ·intro w'
     go_simp
     with_reducible rfl
    rotate_left
    ·simp only [Act.put,List.setIfInBounds_toArray,List.set_cons_zero,List.set_cons_succ,i64_w,i32_w]
     rfl
    refine last_ (i:=14) (N:=none) #[true,true,true,true,true,true,true,true,true,true,true,true,true,true,true] rfl rfl (one_of HT_.out (by kernel_rfl)) (by decide) (fun K hK=>?_)
    refine skip_ (w1:=?_) (by rfl) rfl ?_ ?_
    rotate_left
    ·go_simp
     rfl
    refine hK.out _ _ ?_
    clear hK K
    refine done_ (done_of HT_.out (by kernel_rfl)) ?_

    change NoPanic _ _ _ (w3.setCell ⟨b,0,none⟩ (.slice A5 o1.length c5))
    generalize w3.setCell ⟨b,0,none⟩ (.slice A5 o1.length c5)=w4 at HX5 ⊢
    refine leaves_cons (f:=34) (args:=#[.pointer (some ⟨b,0,none⟩)]) (by simp) (by simp [go_sem]) ?_
    refine (catch_idle _ _).mono ?_
    rintro e u' w'' ⟨rfl,rfl,rfl⟩
    simp [Leaves,settle,results,Try.results23,go_sem]
    rw [HR2.out]
    exact ⟨_,_,HX5.out⟩
   ·as_aux_lemma =>
    have hxl:x<l.length:=by have:=HB.out;omega
    obtain ⟨gk',HG⟩:∃ m,Aside0 (gk=m+1):=⟨gk - 1,⟨by have:=HB.out;omega⟩⟩
    have f2:decide (x<l.length)=true:=decide_eq_true hxl
    obtain ⟨ad,A4,c4,ea,hw0,hw1,hw2,hw3,hw4,hl4,hi4⟩:=at_hkA HRL.out x hxl
    cases ea
    obtain ⟨h,hh⟩:∃ h,h=l[x]:=⟨_,rfl⟩
    rw [← hh] at hw0 hw1 hw2 hw3 hw4 hl4 hi4
    have HSL:=Aside0.mk (show l.drop x=h :: l.drop (x+1) by rw [hh];exact List.drop_eq_getElem_cons hxl)
    have hsm:=HS.out.2.2 h (by rw [hh];exact List.getElem_mem hxl)
    obtain ⟨more,hrp⟩:=HR.out
    rw [HSL.out,rightP,Bool.and_eq_true,Bool.and_eq_true,Bool.and_eq_true,decide_eq_true_eq] at hrp
    obtain ⟨⟨⟨hr1,hr2⟩,hr3⟩,hr4⟩:=hrp
    have HR1:=Aside0.mk hr1
    have HR4:=Aside0.mk hr4
    have HRS:=Aside0.mk (rightL_size hr1)
    replace hw0:=pw_cell_below HX.out.bel hw0
    replace hw1:=pw_cell_below HX.out.bel hw1
    replace hw2:=pw_cell_below HX.out.bel hw2
    replace hw3:=pw_cell_below HX.out.bel hw3
    replace hw4:=pw_cell_below HX.out.bel hw4
    have HC4:=Aside0.mk hl4
    have HI4:=Aside0.mk hi4
    have HSM:=Aside0.mk hsm
    have HD:=Aside0.mk hr2
    have HXL:=Aside0.mk hxl
    have kx:IntKind.i64.wrap ((x:Int)+1)=(x:Int)+1:=IntWalk.i64_in _ (by omega)
    clear hh hend hsm hr1 hr2 hr3 hr4 hl4 hi4
    cases h1:oneP a d h.f0 h.f4 o with
    | none =>
     have H1:=Aside0.mk h1
     have HR2:=Aside0.mk (show R=([],6) by rw [HAP.out,← HQ.out,HSL.out,allP,h1])
     clear h1
     go_wp2_with (go_at_call 36;refine (one_calls w b A0 c0 a h.f0 h.f1 h.f2 h.f3 A4 c4 h.f4 (.slice A3 o.length c3) d o _ ?hW HRA.out HCA.out HI4.out HC4.out HD.out HB.out.2.2.1 HRS.out.1 (by omega) (by have:=HSM.out;omega) (by have:=HB.out;omega)).mono ?_;(case hW=>exact HX.out.alloc _);rintro e w' hE;rw [H1.out] at hE;obtain ⟨⟨u,pv,rfl⟩,v2,d2,o2,hY⟩:=hE;have HY:=Aside0.mk hY;clear hY)
     obtain ⟨A6,c6,e6⟩:=Kd.R_slice HY.out.row
     subst e6
     refine leaves_cons (f:=34) (args:=#[.pointer (some ⟨b,0,none⟩)]) (by simp) (by simp [go_sem]) ?_
     refine (catch_panicking b _ u pv [] _ ((blk_cell HY.out.box 0).trans rfl) rfl (blk_frozen HY.out.box 0)).mono ?_
     rintro e u' w'' ⟨rfl,rfl,rfl⟩
     have HZ:=HY.out.nil
     simp [Leaves,settle,results,Try.results23,go_sem]
     rw [HR2.out]
     exact ⟨_,_,HZ⟩
    | some q =>
     obtain ⟨o2,d2⟩:=q
     have hp:=oneP_some HR1.out h1
     have H1:=Aside0.mk h1
     have HP:=Aside0.mk hp
     have HQ2:=Aside0.mk (show allP a d2 o2 (l.drop (x+1))=allP a 0 [] l by rw [← HQ.out,HSL.out,allP,h1])
     clear h1 hp
     go_wp2_with (go_at_call 36;refine (one_calls w b A0 c0 a h.f0 h.f1 h.f2 h.f3 A4 c4 h.f4 (.slice A3 o.length c3) d o _ ?hW HRA.out HCA.out HI4.out HC4.out HD.out HB.out.2.2.1 HRS.out.1 (by omega) (by have:=HSM.out;omega) (by have:=HB.out;omega)).mono ?_;(case hW=>exact HX.out.alloc _);rintro e w' hE;rw [H1.out] at hE;obtain ⟨rfl,v2,hY⟩:=hE;have HY:=Aside0.mk hY;clear hY)
     go_roundg gk'
     case measure=>have:=HG.out;omega
     case rel =>
      clear kx
      obtain ⟨A6,c6,e6⟩:=Kd.R_slice HY.out.row
      subst e6
      have:=HP.out
      exact ⟨x+1,d2,A6,c6,o2,by go_num,⟨by have:=HB.out;have:=HG.out;have:=HXL.out;have:=HSM.out;omega⟩,HQ2,⟨_,by rw [this.1];exact HR4.out⟩,HY⟩
end Go.Proofs.Ytoaijganmfijmaa.Pr
-- shrunk
/-
package apply's Apply: what hunks make of lines.
-/
namespace Go.Proofs.Ytoaijganmfijmaa.Pr
open Go.RowKit Go.Proofs.YtoaijganmfijmaaW.PrintWords Go.Proofs.YtoaijganmfijmaaW.PrintLast Go.Proofs.YtoaijganmfijmaaW.PrintMore
def apply_Apply.f (l0:List ByteArray) (l1:List Hk):Option (List ByteArray × Int):=if SmallA l0 l1 then some (applyP l0 l1) else none
set_option maxRecDepth 100000 in
set_option maxHeartbeats 4000000 in
theorem apply_Apply.calls (A0:Option Addr) (c0:Nat) (l0:List ByteArray) (A1:Option Addr) (c1:Nat) (l1:List Hk) (r1:List ByteArray) (r2:Int) (w:World) (hr0:Kd.C Kd.string w A0 l0.length l0) (hc0:l0.length≤c0) (hr1:Kd.C k41 w A1 l1.length l1) (hc1:l1.length≤c1) (h:apply_Apply.f l0 l1=some (r1,r2)) :
  Calls Try.prog 12 #[.slice A0 l0.length c0,.slice A1 l1.length c1] w fun e w'=>∃ v0_:Value,e=.returned (.tuple #[v0_,.int .i64 r2])∧Kd.R Kd.string 9 w' w.heap.size (fun _=>True) v0_ r1∧Below w.heap.size w w':=by
 have hu1:=Try.underlying41
 have hu2:=Try.underlying46
 unfold apply_Apply.f at h
 by_cases hs:SmallA l0 l1
 rotate_left
 ·rw [if_neg hs] at h;cases h
 rw [if_pos hs] at h
 have hap:=Option.some.inj h
 have HR0:=Aside0.mk hr0
 have HC0:=Aside0.mk hc0
 have HR1:=Aside0.mk hr1
 have HC1:=Aside0.mk hc1
 have HS:=Aside0.mk hs
 have HX:=Aside0.mk (show ABox w w.heap.size (.slice none 0 0) 0 0 [] (w.alloc (.cells #[.slice none 0 0,.int .i64 0,.int .i64 0] 46 (0,0))) from ⟨blk_new w _,Kd.R_nil _ _ _ _ _,Nat.le_refl _,below_alloc (Below.refl _ _) _⟩)
 obtain ⟨b,hb⟩:∃ b,b=w.heap.size:=⟨_,rfl⟩
 have HBN:=Aside0.mk hb
 have H:=Aside0.mk hap
 clear h hap hr0 hc0 hr1 hc1 hs
 go_enter Try.func12,Try.ntmps12
 go_upto_region 3 with (go_at_call 23;refine (all_calls w w.heap.size A0 c0 l0 A1 c1 l1 _ HX.out HR0.out HC0.out HR1.out HC1.out HS.out).mono ?_;rintro e w' ⟨rfl,v,d,hY⟩;rw [H.out] at hY;have HY:=Aside0.mk hY;clear hY)
 have hz0:=(blk_cell HY.out.box 0).trans rfl
 have hz2:=(blk_cell HY.out.box 2).trans rfl
 repeat (go_quiet (fail);try go_wp2)
 go_ret2
 refine ⟨_,rfl,?_⟩
 have HZ:=fun n=>HY.out.below (w1:=w'.drewN n) (pw_below_drewN (Below.refl _ _) n)
 exact ⟨(HZ _).row,(HZ _).bel⟩
end Go.Proofs.Ytoaijganmfijmaa.Pr
-- shrunk
-- written by a program of this session's (a turned copy of the kit's printer); Lean checks it
namespace Go.Proofs.Ytoaijganmfijmaa.Pr
open Go.RowKit Go.Proofs.YtoaijganmfijmaaW.PrintWords Go.Proofs.YtoaijganmfijmaaW.PrintLast Go.Proofs.YtoaijganmfijmaaW.PrintMore
attribute [local go_sem] max2_int min2_int max_two min_two max_three min_three max_four min_four   -- for this text's walks alone

def apply_Between.f (k:Nat) (l0:List ByteArray) (l1:List ByteArray) (a2:Int):Option ((List (S41)) × Int):=(diff_Diff.f l0 l1).bind fun t278=>((hunk_Make.f k l0 t278 a2).bind fun bt281=>(some (bt281.1,bt281.2)))
theorem apply_Between.mono:∀ a0 a1 a2 k,LeO (apply_Between.f k a0 a1 a2) (apply_Between.f (k+1) a0 a1 a2):=by
 intro a0 a1 a2 k
 unfold apply_Between.f
 repeat' first
   | (with_reducible exact hunk_Make.mono _ _ _ _)
   | (with_reducible exact LeO.refl _)
   | (with_reducible exact LeO.none _)
   | (with_reducible refine LeO.ite ?_ ?_)
   | (with_reducible refine LeO.bind ?_ (fun _=>?_))
   | exact hunk_Make.mono _ _ _ _
   | exact LeO.none _
   | refine LeO.ite ?_ ?_
   | refine LeO.bind ?_ (fun _=>?_)
set_option maxHeartbeats 8000000 in
set_option maxRecDepth 100000 in
theorem apply_Between.calls (k:Nat) (A0:Option Addr) (c0:Nat) (l0:List ByteArray) (A1:Option Addr) (c1:Nat) (l1:List ByteArray) (a2:Int) (r1:List (S41)) (r2:Int) (w:World) (hr0:Kd.C Kd.string w A0 l0.length l0) (hc0:l0.length≤c0) (hr1:Kd.C Kd.string w A1 l1.length l1) (hc1:l1.length≤c1) (h:apply_Between.f k l0 l1 a2=some (r1,r2)) :
  Calls Try.prog 20 #[.slice A0 l0.length c0,.slice A1 l1.length c1,.int .i64 a2] w fun e w'=>∃ v0_:Value,e=.returned (.tuple #[v0_,.int .i64 r2])∧Kd.S k41 41 w' w.heap.size (fun _=>True) v0_ r1∧Below w.heap.size w w':=by
 have HR0:=Aside0.mk hr0
 have HC0:=Aside0.mk hc0
 clear hr0 hc0
 have HR1:=Aside0.mk hr1
 have HC1:=Aside0.mk hc1
 clear hr1 hc1
 have HB:=Aside0.mk (Below.refl w.heap.size w)
 have H:((diff_Diff.f l0 l1).bind fun t278=>((hunk_Make.f k l0 t278 a2).bind fun bt281=>(some (bt281.1,bt281.2))))=some (r1,r2):=h
 clear h
 replace H:=Option.bind_eq_some_iff.mp H
 obtain ⟨t278,A40,H⟩:=H
 replace H:((hunk_Make.f k l0 t278 a2).bind fun bt281=>(some (bt281.1,bt281.2)))=some (r1,r2):=H
 have A4:=Aside0.mk A40
 clear A40
 replace H:=Option.bind_eq_some_iff.mp H
 obtain ⟨⟨t281,t284⟩,A50,H⟩:=H
 replace H:(some (t281,t284))=some (r1,r2):=H
 have A5:=Aside0.mk A50
 clear A50
 simp only [Option.some.injEq,Prod.mk.injEq] at H
 obtain ⟨rfl,rfl⟩:=H
 go_enter Try.func20,Try.ntmps20
 go_wp2_with (first|((with_reducible refine gate_callee (f:=30) rfl ?_);refine goesL_ (some 11) rfl rfl Try.func30 (by kernel_rfl) rfl #[.slice A0 l0.length c0,.slice A1 l1.length c1] rfl (by (try simp only [List.map_toArray,List.map_cons,List.map_nil]);first|done|rfl|(simp only [List.length_drop,List.length_take];rfl)) ?_;(with_reducible refine (diff_Diff.calls _ _ l0 _ _ l1 t278 _ ?side1 ?side2 ?side3 ?side4 A4.out).mono ?_);(case side1=>repeat (first|exact HR0.out|(with_reducible refine Kd.C_alloc ?_ _)|(with_reducible refine Kd.C_drewN ?_ _)|(with_reducible refine Kd.C_drew ?_)));(case side2=>exact HC0.out);(case side3=>repeat (first|exact HR1.out|(with_reducible refine Kd.C_alloc ?_ _)|(with_reducible refine Kd.C_drewN ?_ _)|(with_reducible refine Kd.C_drew ?_)));(case side4=>exact HC1.out);rintro e w6 ⟨v279,rfl,ho0,hb⟩;refine ⟨_,rfl,?_⟩;have n0_:=Aside0.mk (Kd.S_lower ho0 (below_size bel));have n1_:=Aside0.mk (below_step bel hb);clear HB;have HO280:=n0_;have HB:=n1_;clear n0_ n1_;(try clear hb);(try clear hb2);(try clear hk);(try clear hi);(try clear ho0);obtain ⟨Ao7,co7,eo7⟩:=Kd.S_slice HO280.out;subst eo7)|((with_reducible refine gate_callee (f:=29) rfl ?_);refine goesL_ (some 13) rfl rfl Try.func29 (by kernel_rfl) rfl #[.slice A0 l0.length c0,.slice Ao7 t278.length co7,.int .i64 a2] rfl (by (try simp only [List.map_toArray,List.map_cons,List.map_nil]);first|done|rfl|(simp only [List.length_drop,List.length_take];rfl)) ?_;(with_reducible refine (hunk_Make.calls k _ _ l0 (fun k_=>True) _ _ t278 a2 t281 t284 _ ?side1 ?side2 ?side3 A5.out).mono ?_);(case side1=>repeat (first|exact (Kd.C_below HR0.out HB.out)|(with_reducible refine Kd.C_alloc ?_ _)|(with_reducible refine Kd.C_drewN ?_ _)|(with_reducible refine Kd.C_drew ?_)));(case side2=>exact HC0.out);(case side3=>exact Kd.S_V (HO280.out));rintro e w8 ⟨v282,rfl,ho0,hb⟩;refine ⟨_,rfl,?_⟩;have n0_:=Aside0.mk (Kd.S_below (by (with_reducible repeat (first|apply Kd.S_alloc|apply Kd.S_drewN|apply Kd.S_drew));exact HO280.out) hb);have n1_:=Aside0.mk (Kd.S_lower (Kd.S_mono (ok':=fun k_=>True) ho0 (fun _ hk_=>trivial)) (below_size bel));have n2_:=Aside0.mk (below_step bel hb);clear HO280;clear HB;have HO280:=n0_;have HO283:=n1_;have HB:=n2_;clear n0_ n1_ n2_;(try clear hb);(try clear hb2);(try clear hk);(try clear hi);(try clear ho0)))
 go_ret2
 exact ⟨_,by first|rfl|(simp [errW_none,errW_some]<;>rfl)|(simp [*,errW_none,errW_some]<;>rfl),by (with_reducible repeat (first|apply Kd.S_alloc|apply Kd.S_drewN|apply Kd.S_drew));exact HO283.out,bel⟩

end Go.Proofs.Ytoaijganmfijmaa.Pr
-- shrunk
-- written by a program of this session's (a turned copy of the kit's printer); Lean checks it
namespace Go.Proofs.Ytoaijganmfijmaa.Pr
open Go.RowKit Go.Proofs.YtoaijganmfijmaaW.PrintWords Go.Proofs.YtoaijganmfijmaaW.PrintLast Go.Proofs.YtoaijganmfijmaaW.PrintMore
attribute [local go_sem] max2_int min2_int max_two min_two max_three min_three max_four min_four   -- for this text's walks alone

def l07_awake0.f (k:Nat) :Option (Bool):=(some (([(⟨0,1,0,1,(([(⟨#[45,97]⟩:ByteArray),(⟨#[43,98]⟩:ByteArray)]:List ByteArray))⟩:S41)]:List (S41)):List (S41))).bind fun y288=>((apply_Apply.f (([(⟨#[97]⟩:ByteArray)]:List ByteArray)) y288).bind fun bt294=>((apply_Apply.f (([(⟨#[99]⟩:ByteArray)]:List ByteArray)) y288).bind fun bt301=>((apply_Between.f k (([(⟨#[97]⟩:ByteArray)]:List ByteArray)) (([(⟨#[98]⟩:ByteArray)]:List ByteArray)) 0).bind fun bt311=>(if bt294.2=0 then ((r01_Texts.f k bt294.1 (([(⟨#[98]⟩:ByteArray)]:List ByteArray))).bind fun t318=>(if t318=true then (if bt301.2=6 then (if bt311.2=0 then ((r05_Same.f k bt311.1 y288).bind fun t319=>(if t319=true then ((apply_Right.f k y288).bind fun t320=>(if t320=true then ((apply_Turn.f k y288).bind fun t321=>(some ((t321.length:Int) == 1))) else (some false))) else (some false))) else (some false)) else (some false)) else (some false))) else (some false)))))
theorem l07_awake0.mono:∀ k,LeO (l07_awake0.f k ) (l07_awake0.f (k+1) ):=by
 intro  k
 unfold l07_awake0.f
 repeat' first
   | (with_reducible exact apply_Between.mono _ _ _ _)
   | (with_reducible exact apply_Right.mono _ _)
   | (with_reducible exact apply_Turn.mono _ _)
   | (with_reducible exact r01_Texts.mono _ _ _)
   | (with_reducible exact r05_Same.mono _ _ _)
   | (with_reducible exact LeO.refl _)
   | (with_reducible exact LeO.none _)
   | (with_reducible refine LeO.ite ?_ ?_)
   | (with_reducible refine LeO.bind ?_ (fun _=>?_))
   | exact apply_Between.mono _ _ _ _
   | exact apply_Right.mono _ _
   | exact apply_Turn.mono _ _
   | exact r01_Texts.mono _ _ _
   | exact r05_Same.mono _ _ _
   | exact LeO.none _
   | refine LeO.ite ?_ ?_
   | refine LeO.bind ?_ (fun _=>?_)
set_option maxHeartbeats 8000000 in
set_option maxRecDepth 100000 in
theorem l07_awake0.calls (k:Nat)  (r:Bool) (w:World) (hrt_:Aside0 (r=true)) (h:l07_awake0.f k =some r) :
  Calls Try.prog 10 #[] w fun e w'=>e=.returned (.bool r)∧Below w.heap.size w w':=by
 have hu41:=Try.underlying41
 have HB:=Aside0.mk (Below.refl w.heap.size w)
 have H:((some (([(⟨0,1,0,1,(([(⟨#[45,97]⟩:ByteArray),(⟨#[43,98]⟩:ByteArray)]:List ByteArray))⟩:S41)]:List (S41)):List (S41))).bind fun y288=>((apply_Apply.f (([(⟨#[97]⟩:ByteArray)]:List ByteArray)) y288).bind fun bt294=>((apply_Apply.f (([(⟨#[99]⟩:ByteArray)]:List ByteArray)) y288).bind fun bt301=>((apply_Between.f k (([(⟨#[97]⟩:ByteArray)]:List ByteArray)) (([(⟨#[98]⟩:ByteArray)]:List ByteArray)) 0).bind fun bt311=>(if bt294.2=0 then ((r01_Texts.f k bt294.1 (([(⟨#[98]⟩:ByteArray)]:List ByteArray))).bind fun t318=>(if t318=true then (if bt301.2=6 then (if bt311.2=0 then ((r05_Same.f k bt311.1 y288).bind fun t319=>(if t319=true then ((apply_Right.f k y288).bind fun t320=>(if t320=true then ((apply_Turn.f k y288).bind fun t321=>(some ((t321.length:Int) == 1))) else (some false))) else (some false))) else (some false)) else (some false)) else (some false))) else (some false))))))=some r:=h
 clear h
 obtain ⟨y285,hy285⟩:∃ y_:List ByteArray,y_=(([(⟨#[45,97]⟩:ByteArray),(⟨#[43,98]⟩:ByteArray)]:List ByteArray)):=⟨_,rfl⟩
 replace H:((some (([(⟨0,1,0,1,y285⟩:S41)]:List (S41)):List (S41))).bind fun y288=>((apply_Apply.f (([(⟨#[97]⟩:ByteArray)]:List ByteArray)) y288).bind fun bt294=>((apply_Apply.f (([(⟨#[99]⟩:ByteArray)]:List ByteArray)) y288).bind fun bt301=>((apply_Between.f k (([(⟨#[97]⟩:ByteArray)]:List ByteArray)) (([(⟨#[98]⟩:ByteArray)]:List ByteArray)) 0).bind fun bt311=>(if bt294.2=0 then ((r01_Texts.f k bt294.1 (([(⟨#[98]⟩:ByteArray)]:List ByteArray))).bind fun t318=>(if t318=true then (if bt301.2=6 then (if bt311.2=0 then ((r05_Same.f k bt311.1 y288).bind fun t319=>(if t319=true then ((apply_Right.f k y288).bind fun t320=>(if t320=true then ((apply_Turn.f k y288).bind fun t321=>(some ((t321.length:Int) == 1))) else (some false))) else (some false))) else (some false)) else (some false)) else (some false))) else (some false))))))=some r:=by first|(rw [hy285];with_reducible exact H)|(have H2_:=(Option.bind_some _ _).symm.trans H;rw [hy285];with_reducible exact H2_)|(have H2_:=(Option.bind_some _ _).symm.trans H;with_reducible exact H2_)|with_reducible exact H|(rw [hy285];exact H)|exact H
 have Ny285:=Aside0.mk hy285
 clear hy285
 obtain ⟨y288,hy288⟩:∃ y_:List (S41),y_=(([(⟨0,1,0,1,y285⟩:S41)]:List (S41))):=⟨_,rfl⟩
 replace H:((apply_Apply.f (([(⟨#[97]⟩:ByteArray)]:List ByteArray)) y288).bind fun bt294=>((apply_Apply.f (([(⟨#[99]⟩:ByteArray)]:List ByteArray)) y288).bind fun bt301=>((apply_Between.f k (([(⟨#[97]⟩:ByteArray)]:List ByteArray)) (([(⟨#[98]⟩:ByteArray)]:List ByteArray)) 0).bind fun bt311=>(if bt294.2=0 then ((r01_Texts.f k bt294.1 (([(⟨#[98]⟩:ByteArray)]:List ByteArray))).bind fun t318=>(if t318=true then (if bt301.2=6 then (if bt311.2=0 then ((r05_Same.f k bt311.1 y288).bind fun t319=>(if t319=true then ((apply_Right.f k y288).bind fun t320=>(if t320=true then ((apply_Turn.f k y288).bind fun t321=>(some ((t321.length:Int) == 1))) else (some false))) else (some false))) else (some false)) else (some false)) else (some false))) else (some false)))))=some r:=by first|(rw [hy288];with_reducible exact H)|(have H2_:=(Option.bind_some _ _).symm.trans H;rw [hy288];with_reducible exact H2_)|(have H2_:=(Option.bind_some _ _).symm.trans H;with_reducible exact H2_)|with_reducible exact H|(rw [hy288];exact H)|exact H
 have Ny288:=Aside0.mk hy288
 clear hy288
 obtain ⟨y291,hy291⟩:∃ y_:List ByteArray,y_=(([(⟨#[97]⟩:ByteArray)]:List ByteArray)):=⟨_,rfl⟩
 replace H:((apply_Apply.f y291 y288).bind fun bt294=>((apply_Apply.f (([(⟨#[99]⟩:ByteArray)]:List ByteArray)) y288).bind fun bt301=>((apply_Between.f k (([(⟨#[97]⟩:ByteArray)]:List ByteArray)) (([(⟨#[98]⟩:ByteArray)]:List ByteArray)) 0).bind fun bt311=>(if bt294.2=0 then ((r01_Texts.f k bt294.1 (([(⟨#[98]⟩:ByteArray)]:List ByteArray))).bind fun t318=>(if t318=true then (if bt301.2=6 then (if bt311.2=0 then ((r05_Same.f k bt311.1 y288).bind fun t319=>(if t319=true then ((apply_Right.f k y288).bind fun t320=>(if t320=true then ((apply_Turn.f k y288).bind fun t321=>(some ((t321.length:Int) == 1))) else (some false))) else (some false))) else (some false)) else (some false)) else (some false))) else (some false)))))=some r:=by first|(rw [hy291];with_reducible exact H)|(have H2_:=(Option.bind_some _ _).symm.trans H;rw [hy291];with_reducible exact H2_)|(have H2_:=(Option.bind_some _ _).symm.trans H;with_reducible exact H2_)|with_reducible exact H|(rw [hy291];exact H)|exact H
 have Ny291:=Aside0.mk hy291
 clear hy291
 replace H:=Option.bind_eq_some_iff.mp H
 obtain ⟨⟨t294,t295⟩,A10,H⟩:=H
 replace H:((apply_Apply.f (([(⟨#[99]⟩:ByteArray)]:List ByteArray)) y288).bind fun bt301=>((apply_Between.f k (([(⟨#[97]⟩:ByteArray)]:List ByteArray)) (([(⟨#[98]⟩:ByteArray)]:List ByteArray)) 0).bind fun bt311=>(if t295=0 then ((r01_Texts.f k t294 (([(⟨#[98]⟩:ByteArray)]:List ByteArray))).bind fun t318=>(if t318=true then (if bt301.2=6 then (if bt311.2=0 then ((r05_Same.f k bt311.1 y288).bind fun t319=>(if t319=true then ((apply_Right.f k y288).bind fun t320=>(if t320=true then ((apply_Turn.f k y288).bind fun t321=>(some ((t321.length:Int) == 1))) else (some false))) else (some false))) else (some false)) else (some false)) else (some false))) else (some false))))=some r:=H
 have A1:=Aside0.mk A10
 clear A10
 obtain ⟨y298,hy298⟩:∃ y_:List ByteArray,y_=(([(⟨#[99]⟩:ByteArray)]:List ByteArray)):=⟨_,rfl⟩
 replace H:((apply_Apply.f y298 y288).bind fun bt301=>((apply_Between.f k (([(⟨#[97]⟩:ByteArray)]:List ByteArray)) (([(⟨#[98]⟩:ByteArray)]:List ByteArray)) 0).bind fun bt311=>(if t295=0 then ((r01_Texts.f k t294 (([(⟨#[98]⟩:ByteArray)]:List ByteArray))).bind fun t318=>(if t318=true then (if bt301.2=6 then (if bt311.2=0 then ((r05_Same.f k bt311.1 y288).bind fun t319=>(if t319=true then ((apply_Right.f k y288).bind fun t320=>(if t320=true then ((apply_Turn.f k y288).bind fun t321=>(some ((t321.length:Int) == 1))) else (some false))) else (some false))) else (some false)) else (some false)) else (some false))) else (some false))))=some r:=by first|(rw [hy298];with_reducible exact H)|(have H2_:=(Option.bind_some _ _).symm.trans H;rw [hy298];with_reducible exact H2_)|(have H2_:=(Option.bind_some _ _).symm.trans H;with_reducible exact H2_)|with_reducible exact H|(rw [hy298];exact H)|exact H
 have Ny298:=Aside0.mk hy298
 clear hy298
 replace H:=Option.bind_eq_some_iff.mp H
 obtain ⟨⟨t301,t302⟩,A20,H⟩:=H
 replace H:((apply_Between.f k (([(⟨#[97]⟩:ByteArray)]:List ByteArray)) (([(⟨#[98]⟩:ByteArray)]:List ByteArray)) 0).bind fun bt311=>(if t295=0 then ((r01_Texts.f k t294 (([(⟨#[98]⟩:ByteArray)]:List ByteArray))).bind fun t318=>(if t318=true then (if t302=6 then (if bt311.2=0 then ((r05_Same.f k bt311.1 y288).bind fun t319=>(if t319=true then ((apply_Right.f k y288).bind fun t320=>(if t320=true then ((apply_Turn.f k y288).bind fun t321=>(some ((t321.length:Int) == 1))) else (some false))) else (some false))) else (some false)) else (some false)) else (some false))) else (some false)))=some r:=H
 have A2:=Aside0.mk A20
 clear A20
 obtain ⟨y305,hy305⟩:∃ y_:List ByteArray,y_=(([(⟨#[97]⟩:ByteArray)]:List ByteArray)):=⟨_,rfl⟩
 replace H:((apply_Between.f k y305 (([(⟨#[98]⟩:ByteArray)]:List ByteArray)) 0).bind fun bt311=>(if t295=0 then ((r01_Texts.f k t294 (([(⟨#[98]⟩:ByteArray)]:List ByteArray))).bind fun t318=>(if t318=true then (if t302=6 then (if bt311.2=0 then ((r05_Same.f k bt311.1 y288).bind fun t319=>(if t319=true then ((apply_Right.f k y288).bind fun t320=>(if t320=true then ((apply_Turn.f k y288).bind fun t321=>(some ((t321.length:Int) == 1))) else (some false))) else (some false))) else (some false)) else (some false)) else (some false))) else (some false)))=some r:=by first|(rw [hy305];with_reducible exact H)|(have H2_:=(Option.bind_some _ _).symm.trans H;rw [hy305];with_reducible exact H2_)|(have H2_:=(Option.bind_some _ _).symm.trans H;with_reducible exact H2_)|with_reducible exact H|(rw [hy305];exact H)|exact H
 have Ny305:=Aside0.mk hy305
 clear hy305
 obtain ⟨y308,hy308⟩:∃ y_:List ByteArray,y_=(([(⟨#[98]⟩:ByteArray)]:List ByteArray)):=⟨_,rfl⟩
 replace H:((apply_Between.f k y305 y308 0).bind fun bt311=>(if t295=0 then ((r01_Texts.f k t294 (([(⟨#[98]⟩:ByteArray)]:List ByteArray))).bind fun t318=>(if t318=true then (if t302=6 then (if bt311.2=0 then ((r05_Same.f k bt311.1 y288).bind fun t319=>(if t319=true then ((apply_Right.f k y288).bind fun t320=>(if t320=true then ((apply_Turn.f k y288).bind fun t321=>(some ((t321.length:Int) == 1))) else (some false))) else (some false))) else (some false)) else (some false)) else (some false))) else (some false)))=some r:=by first|(rw [hy308];with_reducible exact H)|(have H2_:=(Option.bind_some _ _).symm.trans H;rw [hy308];with_reducible exact H2_)|(have H2_:=(Option.bind_some _ _).symm.trans H;with_reducible exact H2_)|with_reducible exact H|(rw [hy308];exact H)|exact H
 have Ny308:=Aside0.mk hy308
 clear hy308
 replace H:=Option.bind_eq_some_iff.mp H
 obtain ⟨⟨t311,t312⟩,A30,H⟩:=H
 replace H:(if t295=0 then ((r01_Texts.f k t294 (([(⟨#[98]⟩:ByteArray)]:List ByteArray))).bind fun t318=>(if t318=true then (if t302=6 then (if t312=0 then ((r05_Same.f k t311 y288).bind fun t319=>(if t319=true then ((apply_Right.f k y288).bind fun t320=>(if t320=true then ((apply_Turn.f k y288).bind fun t321=>(some ((t321.length:Int) == 1))) else (some false))) else (some false))) else (some false)) else (some false)) else (some false))) else (some false))=some r:=H
 have A3:=Aside0.mk A30
 clear A30
 by_cases c4:t295=0
 rotate_left
 ·rw [if_neg c4] at H
  have c4b0:(t295 == 0)=false:=beq_eq_false_iff_ne.mpr c4
  have c4b1:(t295 != 0)=true:=bne_iff_ne.mpr c4
  exact absurd (H.trans (congrArg some hrt_.out)) (by simp)
 rw [if_pos c4] at H
 have c4b0:(t295 == 0)=true:=beq_iff_eq.mpr c4
 have c4b1:(t295 != 0)=false:=bne_eq_false_iff_eq.mpr c4
 clear c4
 obtain ⟨y315,hy315⟩:∃ y_:List ByteArray,y_=(([(⟨#[98]⟩:ByteArray)]:List ByteArray)):=⟨_,rfl⟩
 replace H:((r01_Texts.f k t294 y315).bind fun t318=>(if t318=true then (if t302=6 then (if t312=0 then ((r05_Same.f k t311 y288).bind fun t319=>(if t319=true then ((apply_Right.f k y288).bind fun t320=>(if t320=true then ((apply_Turn.f k y288).bind fun t321=>(some ((t321.length:Int) == 1))) else (some false))) else (some false))) else (some false)) else (some false)) else (some false)))=some r:=by first|(rw [hy315];with_reducible exact H)|(have H2_:=(Option.bind_some _ _).symm.trans H;rw [hy315];with_reducible exact H2_)|(have H2_:=(Option.bind_some _ _).symm.trans H;with_reducible exact H2_)|with_reducible exact H|(rw [hy315];exact H)|exact H
 have Ny315:=Aside0.mk hy315
 clear hy315
 replace H:=Option.bind_eq_some_iff.mp H
 obtain ⟨t318,A50,H⟩:=H
 replace H:(if t318=true then (if t302=6 then (if t312=0 then ((r05_Same.f k t311 y288).bind fun t319=>(if t319=true then ((apply_Right.f k y288).bind fun t320=>(if t320=true then ((apply_Turn.f k y288).bind fun t321=>(some ((t321.length:Int) == 1))) else (some false))) else (some false))) else (some false)) else (some false)) else (some false))=some r:=H
 have A5:=Aside0.mk A50
 clear A50
 by_cases c6:t318=true
 rotate_left
 ·replace c6:=Bool.eq_false_iff.mpr c6
  subst c6
  have H1:(some false)=some r:=by rw [if_neg (show ¬ (false=true) by decide)] at H;exact H
  clear H
  have H:=H1
  clear H1
  exact absurd (H.trans (congrArg some hrt_.out)) (by simp)
 subst c6
 have H1:(if t302=6 then (if t312=0 then ((r05_Same.f k t311 y288).bind fun t319=>(if t319=true then ((apply_Right.f k y288).bind fun t320=>(if t320=true then ((apply_Turn.f k y288).bind fun t321=>(some ((t321.length:Int) == 1))) else (some false))) else (some false))) else (some false)) else (some false))=some r:=by rw [if_pos rfl] at H;exact H
 clear H
 have H:=H1
 clear H1
 by_cases c7:t302=6
 rotate_left
 ·rw [if_neg c7] at H
  have c7b0:(t302 == 6)=false:=beq_eq_false_iff_ne.mpr c7
  have c7b1:(t302 != 6)=true:=bne_iff_ne.mpr c7
  exact absurd (H.trans (congrArg some hrt_.out)) (by simp)
 rw [if_pos c7] at H
 have c7b0:(t302 == 6)=true:=beq_iff_eq.mpr c7
 have c7b1:(t302 != 6)=false:=bne_eq_false_iff_eq.mpr c7
 clear c7
 by_cases c8:t312=0
 rotate_left
 ·rw [if_neg c8] at H
  have c8b0:(t312 == 0)=false:=beq_eq_false_iff_ne.mpr c8
  have c8b1:(t312 != 0)=true:=bne_iff_ne.mpr c8
  exact absurd (H.trans (congrArg some hrt_.out)) (by simp)
 rw [if_pos c8] at H
 have c8b0:(t312 == 0)=true:=beq_iff_eq.mpr c8
 have c8b1:(t312 != 0)=false:=bne_eq_false_iff_eq.mpr c8
 clear c8
 replace H:=Option.bind_eq_some_iff.mp H
 obtain ⟨t319,A90,H⟩:=H
 replace H:(if t319=true then ((apply_Right.f k y288).bind fun t320=>(if t320=true then ((apply_Turn.f k y288).bind fun t321=>(some ((t321.length:Int) == 1))) else (some false))) else (some false))=some r:=H
 have A9:=Aside0.mk A90
 clear A90
 by_cases c10:t319=true
 rotate_left
 ·replace c10:=Bool.eq_false_iff.mpr c10
  subst c10
  have H1:(some false)=some r:=by rw [if_neg (show ¬ (false=true) by decide)] at H;exact H
  clear H
  have H:=H1
  clear H1
  exact absurd (H.trans (congrArg some hrt_.out)) (by simp)
 subst c10
 have H1:((apply_Right.f k y288).bind fun t320=>(if t320=true then ((apply_Turn.f k y288).bind fun t321=>(some ((t321.length:Int) == 1))) else (some false)))=some r:=by rw [if_pos rfl] at H;exact H
 clear H
 have H:=H1
 clear H1
 replace H:=Option.bind_eq_some_iff.mp H
 obtain ⟨t320,A110,H⟩:=H
 replace H:(if t320=true then ((apply_Turn.f k y288).bind fun t321=>(some ((t321.length:Int) == 1))) else (some false))=some r:=H
 have A11:=Aside0.mk A110
 clear A110
 by_cases c12:t320=true
 rotate_left
 ·replace c12:=Bool.eq_false_iff.mpr c12
  subst c12
  have H1:(some false)=some r:=by rw [if_neg (show ¬ (false=true) by decide)] at H;exact H
  clear H
  have H:=H1
  clear H1
  exact absurd (H.trans (congrArg some hrt_.out)) (by simp)
 subst c12
 have H1:((apply_Turn.f k y288).bind fun t321=>(some ((t321.length:Int) == 1)))=some r:=by rw [if_pos rfl] at H;exact H
 clear H
 have H:=H1
 clear H1
 replace H:=Option.bind_eq_some_iff.mp H
 obtain ⟨t321,A130,H⟩:=H
 replace H:(some ((t321.length:Int) == 1))=some r:=H
 have A13:=Aside0.mk A130
 clear A130
 obtain rfl:=Option.some.inj H
 go_enter Try.func10,Try.ntmps10
 go_wp2_with (first|((with_reducible refine gate_dst (N:=8) rfl ?_);(try (refine gate_guard (by rfl) ?_;dsimp only));refine Kd.R_lit Kd.string _ 9 ?hg (N:=8) ?hd (xs:=([(⟨#[45,97]⟩:ByteArray),(⟨#[43,98]⟩:ByteArray)]:List ByteArray)) (inner:=[.string (⟨#[45,97]⟩:ByteArray),.string (⟨#[43,98]⟩:ByteArray)]) (ok:=fun _=>True) (okp:=fun _=>True) ?hr ?hp (fun _ hk=>hk) trivial (Below.refl _ _) (Nat.le_refl _) (by simp) ?_;(case hd=>rfl);(case hg=>rfl);(case hr=>first|(go_simp;done)|(go_simp;rfl));(case hp=>exact (Reps.one (show Kd.M Kd.string _ _ _ (⟨#[45,97]⟩:ByteArray) [.string (⟨#[45,97]⟩:ByteArray)] from rfl) (Reps.one (show Kd.M Kd.string _ _ _ (⟨#[43,98]⟩:ByteArray) [.string (⟨#[43,98]⟩:ByteArray)] from rfl) (Reps.none _ _))));intro v286 w14 ho15 hb hg_ hnew_;clear hg_ hnew_;(first|rw [← Ny285.out] at ho15|(simp only [Int.reduceToNat] at ho15;rw [← Ny285.out] at ho15));have n0_:=Aside0.mk (Kd.R_lower ho15 (below_size bel));have n1_:=Aside0.mk (below_step bel hb);clear HB;have HO287:=n0_;have HB:=n1_;clear n0_ n1_;clear hb ho15;obtain ⟨Ao16,co16,eo16⟩:=Kd.R_slice HO287.out;subst eo16)|((with_reducible refine gate_dst (N:=10) rfl ?_);(try (refine gate_guard (by rfl) ?_;dsimp only));refine Kd.N_lit k41 _ 41 ?hg (N':=10) ?hd (xs:=([(⟨0,1,0,1,y285⟩:S41)]:List (S41))) (inner:=[.int .i64 0,.int .i64 1,.int .i64 0,.int .i64 1,.slice Ao16 y285.length co16]) (ok:=(fun _=>True)) (okp:=(fun _=>True)) ?hr ?hp (fun _ hk=>hk) ((show ∀ k_,w14.heap.size≤k_→(fun _=>True) k_ from fun k_ hk=>trivial) _ (Nat.le_refl _)) (Below.refl _ _) (Nat.le_refl _) (by simp) ?_;(case hd=>rfl);(case hg=>rfl);(case hr=>first|(go_simp;done)|(go_simp;rfl));(case hp=>exact (Reps.c5 (show Kd.FK k41 _ _ (⟨0,1,0,1,y285⟩:S41) [.int .i64 0,.int .i64 1,.int .i64 0,.int .i64 1,.slice Ao16 y285.length co16] from (k41_mkF _ _ (⟨0,1,0,1,y285⟩:S41) (Kd.R_reads' (Kd.R_mono (ok':=(fun _=>True)) (HO287.out) (fun k_ hk=>trivial))).2.1 (Kd.R_F (Kd.R_mono (ok':=(fun _=>True)) (HO287.out) (fun k_ hk=>trivial))))) (Reps.none _ _)));intro v289 w17 ho18 hb hg_ hnew_;clear hg_ hnew_;(first|rw [← Ny288.out] at ho18|(simp only [Int.reduceToNat] at ho18;rw [← Ny288.out] at ho18));have n0_:=Aside0.mk (Kd.N_lower ho18 (below_size bel));have n1_:=Aside0.mk (below_step bel hb);clear HB;clear HO287;have HO290:=n0_;have HB:=n1_;clear n0_ n1_;clear hb ho18)|((with_reducible refine gate_dst (N:=12) rfl ?_);(try (refine gate_guard (by rfl) ?_;dsimp only));refine Kd.R_lit Kd.string _ 9 ?hg (N:=12) ?hd (xs:=([(⟨#[97]⟩:ByteArray)]:List ByteArray)) (inner:=[.string (⟨#[97]⟩:ByteArray)]) (ok:=fun _=>True) (okp:=fun _=>True) ?hr ?hp (fun _ hk=>hk) trivial (Below.refl _ _) (Nat.le_refl _) (by simp) ?_;(case hd=>rfl);(case hg=>rfl);(case hr=>first|(go_simp;done)|(go_simp;rfl));(case hp=>exact (Reps.one (show Kd.M Kd.string _ _ _ (⟨#[97]⟩:ByteArray) [.string (⟨#[97]⟩:ByteArray)] from rfl) (Reps.none _ _)));intro v292 w19 ho20 hb hg_ hnew_;clear hg_ hnew_;(first|rw [← Ny291.out] at ho20|(simp only [Int.reduceToNat] at ho20;rw [← Ny291.out] at ho20));have n0_:=Aside0.mk (Kd.N_elder' (by (with_reducible repeat (first|apply Kd.N_alloc|apply Kd.N_drewN|apply Kd.N_drew));exact HO290.out) (Kd.R_base ho20) hb);have n1_:=Aside0.mk (Kd.R_lower ho20 (below_size bel));have n2_:=Aside0.mk (below_step bel hb);clear HO290;clear HB;have HO290:=n0_;have HO293:=n1_;have HB:=n2_;clear n0_ n1_ n2_;clear hb ho20;obtain ⟨Ao21,co21,eo21⟩:=Kd.R_slice HO293.out;subst eo21;obtain ⟨Ao22,co22,eo22⟩:=Kd.N_slice HO290.out;subst eo22)|((with_reducible refine gate_callee (f:=12) rfl ?_);refine goesL_ (some 14) rfl rfl Try.func12 (by kernel_rfl) rfl #[.slice Ao21 y291.length co21,.slice Ao22 y288.length co22] rfl (by (try simp only [List.map_toArray,List.map_cons,List.map_nil]);first|done|rfl|(simp only [List.length_drop,List.length_take];rfl)) ?_;(with_reducible refine (apply_Apply.calls _ _ y291 _ _ y288 t294 t295 _ ?side1 ?side2 ?side3 ?side4 A1.out).mono ?_);(case side1=>repeat (first|exact (Kd.R_reads' HO293.out).2.2|(with_reducible refine Kd.C_alloc ?_ _)|(with_reducible refine Kd.C_drewN ?_ _)|(with_reducible refine Kd.C_drew ?_)));(case side2=>exact (Kd.R_reads' HO293.out).2.1);(case side3=>repeat (first|exact (Kd.N_reads' HO290.out).2.2|(with_reducible refine Kd.C_alloc ?_ _)|(with_reducible refine Kd.C_drewN ?_ _)|(with_reducible refine Kd.C_drew ?_)));(case side4=>exact (Kd.N_reads' HO290.out).2.1);rintro e w23 ⟨v296,rfl,ho0,hb⟩;refine ⟨_,rfl,?_⟩;have n0_:=Aside0.mk (Kd.N_elder' (by (with_reducible repeat (first|apply Kd.N_alloc|apply Kd.N_drewN|apply Kd.N_drew));exact HO290.out) (Kd.R_base ho0) hb);have n1_:=Aside0.mk (Kd.R_elder' (by (with_reducible repeat (first|apply Kd.R_alloc|apply Kd.R_drewN|apply Kd.R_drew));exact HO293.out) (Kd.R_base ho0) hb);have n2_:=Aside0.mk (Kd.R_lower (Kd.R_new' ho0 (Kd.R_lt (by (with_reducible repeat (first|apply Kd.R_alloc|apply Kd.R_drewN|apply Kd.R_drew));exact HO293.out))) (below_size bel));have n3_:=Aside0.mk (below_step bel hb);clear HO290;clear HO293;clear HB;have HO290:=n0_;have HO293:=n1_;have HO297:=n2_;have HB:=n3_;clear n0_ n1_ n2_ n3_;(try clear hb);(try clear hb2);(try clear hk);(try clear hi);(try clear ho0))|((with_reducible refine gate_dst (N:=18) rfl ?_);(try (refine gate_guard (by rfl) ?_;dsimp only));refine Kd.R_lit Kd.string _ 9 ?hg (N:=18) ?hd (xs:=([(⟨#[99]⟩:ByteArray)]:List ByteArray)) (inner:=[.string (⟨#[99]⟩:ByteArray)]) (ok:=fun _=>True) (okp:=fun _=>True) ?hr ?hp (fun _ hk=>hk) trivial (Below.refl _ _) (Nat.le_refl _) (by simp) ?_;(case hd=>rfl);(case hg=>rfl);(case hr=>first|(go_simp;done)|(go_simp;rfl));(case hp=>exact (Reps.one (show Kd.M Kd.string _ _ _ (⟨#[99]⟩:ByteArray) [.string (⟨#[99]⟩:ByteArray)] from rfl) (Reps.none _ _)));intro v299 w24 ho25 hb hg_ hnew_;clear hg_ hnew_;(first|rw [← Ny298.out] at ho25|(simp only [Int.reduceToNat] at ho25;rw [← Ny298.out] at ho25));have n0_:=Aside0.mk (Kd.N_elder' (by (with_reducible repeat (first|apply Kd.N_alloc|apply Kd.N_drewN|apply Kd.N_drew));exact HO290.out) (Kd.R_base ho25) hb);have n1_:=Aside0.mk (Kd.R_elder' (by (with_reducible repeat (first|apply Kd.R_alloc|apply Kd.R_drewN|apply Kd.R_drew));exact HO293.out) (Kd.R_base ho25) hb);have n2_:=Aside0.mk (Kd.R_elder' (by (with_reducible repeat (first|apply Kd.R_alloc|apply Kd.R_drewN|apply Kd.R_drew));exact HO297.out) (Kd.R_base ho25) hb);have n3_:=Aside0.mk (Kd.R_lower (Kd.R_new' (Kd.R_new' ho25 (Kd.R_lt (by (with_reducible repeat (first|apply Kd.R_alloc|apply Kd.R_drewN|apply Kd.R_drew));exact HO293.out))) (Kd.R_lt (by (with_reducible repeat (first|apply Kd.R_alloc|apply Kd.R_drewN|apply Kd.R_drew));exact HO297.out))) (below_size bel));have n4_:=Aside0.mk (below_step bel hb);clear HO290;clear HO293;clear HO297;clear HB;have HO290:=n0_;have HO293:=n1_;have HO297:=n2_;have HO300:=n3_;have HB:=n4_;clear n0_ n1_ n2_ n3_ n4_;clear hb ho25;obtain ⟨Ao26,co26,eo26⟩:=Kd.R_slice HO300.out;subst eo26)|((with_reducible refine gate_callee (f:=12) rfl ?_);refine goesL_ (some 20) rfl rfl Try.func12 (by kernel_rfl) rfl #[.slice Ao26 y298.length co26,.slice Ao22 y288.length co22] rfl (by (try simp only [List.map_toArray,List.map_cons,List.map_nil]);first|done|rfl|(simp only [List.length_drop,List.length_take];rfl)) ?_;(with_reducible refine (apply_Apply.calls _ _ y298 _ _ y288 t301 t302 _ ?side1 ?side2 ?side3 ?side4 A2.out).mono ?_);(case side1=>repeat (first|exact (Kd.R_reads' HO300.out).2.2|(with_reducible refine Kd.C_alloc ?_ _)|(with_reducible refine Kd.C_drewN ?_ _)|(with_reducible refine Kd.C_drew ?_)));(case side2=>exact (Kd.R_reads' HO300.out).2.1);(case side3=>repeat (first|exact (Kd.N_reads' HO290.out).2.2|(with_reducible refine Kd.C_alloc ?_ _)|(with_reducible refine Kd.C_drewN ?_ _)|(with_reducible refine Kd.C_drew ?_)));(case side4=>exact (Kd.N_reads' HO290.out).2.1);rintro e w27 ⟨v303,rfl,ho0,hb⟩;refine ⟨_,rfl,?_⟩;have n0_:=Aside0.mk (Kd.N_elder' (by (with_reducible repeat (first|apply Kd.N_alloc|apply Kd.N_drewN|apply Kd.N_drew));exact HO290.out) (Kd.R_base ho0) hb);have n1_:=Aside0.mk (Kd.R_elder' (by (with_reducible repeat (first|apply Kd.R_alloc|apply Kd.R_drewN|apply Kd.R_drew));exact HO293.out) (Kd.R_base ho0) hb);have n2_:=Aside0.mk (Kd.R_elder' (by (with_reducible repeat (first|apply Kd.R_alloc|apply Kd.R_drewN|apply Kd.R_drew));exact HO297.out) (Kd.R_base ho0) hb);have n3_:=Aside0.mk (Kd.R_elder' (by (with_reducible repeat (first|apply Kd.R_alloc|apply Kd.R_drewN|apply Kd.R_drew));exact HO300.out) (Kd.R_base ho0) hb);have n4_:=Aside0.mk (Kd.R_lower (Kd.R_new' (Kd.R_new' (Kd.R_new' ho0 (Kd.R_lt (by (with_reducible repeat (first|apply Kd.R_alloc|apply Kd.R_drewN|apply Kd.R_drew));exact HO293.out))) (Kd.R_lt (by (with_reducible repeat (first|apply Kd.R_alloc|apply Kd.R_drewN|apply Kd.R_drew));exact HO297.out))) (Kd.R_lt (by (with_reducible repeat (first|apply Kd.R_alloc|apply Kd.R_drewN|apply Kd.R_drew));exact HO300.out))) (below_size bel));have n5_:=Aside0.mk (below_step bel hb);clear HO290;clear HO293;clear HO297;clear HO300;clear HB;have HO290:=n0_;have HO293:=n1_;have HO297:=n2_;have HO300:=n3_;have HO304:=n4_;have HB:=n5_;clear n0_ n1_ n2_ n3_ n4_ n5_;(try clear hb);(try clear hb2);(try clear hk);(try clear hi);(try clear ho0))|((with_reducible refine gate_dst (N:=24) rfl ?_);(try (refine gate_guard (by rfl) ?_;dsimp only));refine Kd.R_lit Kd.string _ 9 ?hg (N:=24) ?hd (xs:=([(⟨#[97]⟩:ByteArray)]:List ByteArray)) (inner:=[.string (⟨#[97]⟩:ByteArray)]) (ok:=fun _=>True) (okp:=fun _=>True) ?hr ?hp (fun _ hk=>hk) trivial (Below.refl _ _) (Nat.le_refl _) (by simp) ?_;(case hd=>rfl);(case hg=>rfl);(case hr=>first|(go_simp;done)|(go_simp;rfl));(case hp=>exact (Reps.one (show Kd.M Kd.string _ _ _ (⟨#[97]⟩:ByteArray) [.string (⟨#[97]⟩:ByteArray)] from rfl) (Reps.none _ _)));intro v306 w28 ho29 hb hg_ hnew_;clear hg_ hnew_;(first|rw [← Ny305.out] at ho29|(simp only [Int.reduceToNat] at ho29;rw [← Ny305.out] at ho29));have n0_:=Aside0.mk (Kd.N_elder' (by (with_reducible repeat (first|apply Kd.N_alloc|apply Kd.N_drewN|apply Kd.N_drew));exact HO290.out) (Kd.R_base ho29) hb);have n1_:=Aside0.mk (Kd.R_elder' (by (with_reducible repeat (first|apply Kd.R_alloc|apply Kd.R_drewN|apply Kd.R_drew));exact HO293.out) (Kd.R_base ho29) hb);have n2_:=Aside0.mk (Kd.R_elder' (by (with_reducible repeat (first|apply Kd.R_alloc|apply Kd.R_drewN|apply Kd.R_drew));exact HO297.out) (Kd.R_base ho29) hb);have n3_:=Aside0.mk (Kd.R_elder' (by (with_reducible repeat (first|apply Kd.R_alloc|apply Kd.R_drewN|apply Kd.R_drew));exact HO300.out) (Kd.R_base ho29) hb);have n4_:=Aside0.mk (Kd.R_elder' (by (with_reducible repeat (first|apply Kd.R_alloc|apply Kd.R_drewN|apply Kd.R_drew));exact HO304.out) (Kd.R_base ho29) hb);have n5_:=Aside0.mk (Kd.R_lower (Kd.R_new' (Kd.R_new' (Kd.R_new' (Kd.R_new' ho29 (Kd.R_lt (by (with_reducible repeat (first|apply Kd.R_alloc|apply Kd.R_drewN|apply Kd.R_drew));exact HO293.out))) (Kd.R_lt (by (with_reducible repeat (first|apply Kd.R_alloc|apply Kd.R_drewN|apply Kd.R_drew));exact HO297.out))) (Kd.R_lt (by (with_reducible repeat (first|apply Kd.R_alloc|apply Kd.R_drewN|apply Kd.R_drew));exact HO300.out))) (Kd.R_lt (by (with_reducible repeat (first|apply Kd.R_alloc|apply Kd.R_drewN|apply Kd.R_drew));exact HO304.out))) (below_size bel));have n6_:=Aside0.mk (below_step bel hb);clear HO290;clear HO293;clear HO297;clear HO300;clear HO304;clear HB;have HO290:=n0_;have HO293:=n1_;have HO297:=n2_;have HO300:=n3_;have HO304:=n4_;have HO307:=n5_;have HB:=n6_;clear n0_ n1_ n2_ n3_ n4_ n5_ n6_;clear hb ho29)|((with_reducible refine gate_dst (N:=25) rfl ?_);(try (refine gate_guard (by rfl) ?_;dsimp only));refine Kd.R_lit Kd.string _ 9 ?hg (N:=25) ?hd (xs:=([(⟨#[98]⟩:ByteArray)]:List ByteArray)) (inner:=[.string (⟨#[98]⟩:ByteArray)]) (ok:=fun _=>True) (okp:=fun _=>True) ?hr ?hp (fun _ hk=>hk) trivial (Below.refl _ _) (Nat.le_refl _) (by simp) ?_;(case hd=>rfl);(case hg=>rfl);(case hr=>first|(go_simp;done)|(go_simp;rfl));(case hp=>exact (Reps.one (show Kd.M Kd.string _ _ _ (⟨#[98]⟩:ByteArray) [.string (⟨#[98]⟩:ByteArray)] from rfl) (Reps.none _ _)));intro v309 w30 ho31 hb hg_ hnew_;clear hg_ hnew_;(first|rw [← Ny308.out] at ho31|(simp only [Int.reduceToNat] at ho31;rw [← Ny308.out] at ho31));have n0_:=Aside0.mk (Kd.N_elder' (by (with_reducible repeat (first|apply Kd.N_alloc|apply Kd.N_drewN|apply Kd.N_drew));exact HO290.out) (Kd.R_base ho31) hb);have n1_:=Aside0.mk (Kd.R_elder' (by (with_reducible repeat (first|apply Kd.R_alloc|apply Kd.R_drewN|apply Kd.R_drew));exact HO293.out) (Kd.R_base ho31) hb);have n2_:=Aside0.mk (Kd.R_elder' (by (with_reducible repeat (first|apply Kd.R_alloc|apply Kd.R_drewN|apply Kd.R_drew));exact HO297.out) (Kd.R_base ho31) hb);have n3_:=Aside0.mk (Kd.R_elder' (by (with_reducible repeat (first|apply Kd.R_alloc|apply Kd.R_drewN|apply Kd.R_drew));exact HO300.out) (Kd.R_base ho31) hb);have n4_:=Aside0.mk (Kd.R_elder' (by (with_reducible repeat (first|apply Kd.R_alloc|apply Kd.R_drewN|apply Kd.R_drew));exact HO304.out) (Kd.R_base ho31) hb);have n5_:=Aside0.mk (Kd.R_elder' (by (with_reducible repeat (first|apply Kd.R_alloc|apply Kd.R_drewN|apply Kd.R_drew));exact HO307.out) (Kd.R_base ho31) hb);have n6_:=Aside0.mk (Kd.R_lower (Kd.R_new' (Kd.R_new' (Kd.R_new' (Kd.R_new' (Kd.R_new' ho31 (Kd.R_lt (by (with_reducible repeat (first|apply Kd.R_alloc|apply Kd.R_drewN|apply Kd.R_drew));exact HO293.out))) (Kd.R_lt (by (with_reducible repeat (first|apply Kd.R_alloc|apply Kd.R_drewN|apply Kd.R_drew));exact HO297.out))) (Kd.R_lt (by (with_reducible repeat (first|apply Kd.R_alloc|apply Kd.R_drewN|apply Kd.R_drew));exact HO300.out))) (Kd.R_lt (by (with_reducible repeat (first|apply Kd.R_alloc|apply Kd.R_drewN|apply Kd.R_drew));exact HO304.out))) (Kd.R_lt (by (with_reducible repeat (first|apply Kd.R_alloc|apply Kd.R_drewN|apply Kd.R_drew));exact HO307.out))) (below_size bel));have n7_:=Aside0.mk (below_step bel hb);clear HO290;clear HO293;clear HO297;clear HO300;clear HO304;clear HO307;clear HB;have HO290:=n0_;have HO293:=n1_;have HO297:=n2_;have HO300:=n3_;have HO304:=n4_;have HO307:=n5_;have HO310:=n6_;have HB:=n7_;clear n0_ n1_ n2_ n3_ n4_ n5_ n6_ n7_;clear hb ho31;obtain ⟨Ao32,co32,eo32⟩:=Kd.R_slice HO307.out;subst eo32;obtain ⟨Ao33,co33,eo33⟩:=Kd.R_slice HO310.out;subst eo33)|((with_reducible refine gate_callee (f:=20) rfl ?_);refine goesL_ (some 26) rfl rfl Try.func20 (by kernel_rfl) rfl #[.slice Ao32 y305.length co32,.slice Ao33 y308.length co33,.int .i64 0] rfl (by (try simp only [List.map_toArray,List.map_cons,List.map_nil]);first|done|rfl|(simp only [List.length_drop,List.length_take];rfl)) ?_;(with_reducible refine (apply_Between.calls k _ _ y305 _ _ y308 0 t311 t312 _ ?side1 ?side2 ?side3 ?side4 A3.out).mono ?_);(case side1=>repeat (first|exact (Kd.R_reads' HO307.out).2.2|(with_reducible refine Kd.C_alloc ?_ _)|(with_reducible refine Kd.C_drewN ?_ _)|(with_reducible refine Kd.C_drew ?_)));(case side2=>exact (Kd.R_reads' HO307.out).2.1);(case side3=>repeat (first|exact (Kd.R_reads' HO310.out).2.2|(with_reducible refine Kd.C_alloc ?_ _)|(with_reducible refine Kd.C_drewN ?_ _)|(with_reducible refine Kd.C_drew ?_)));(case side4=>exact (Kd.R_reads' HO310.out).2.1);rintro e w34 ⟨v313,rfl,ho0,hb⟩;refine ⟨_,rfl,?_⟩;have n0_:=Aside0.mk (Kd.N_elder' (by (with_reducible repeat (first|apply Kd.N_alloc|apply Kd.N_drewN|apply Kd.N_drew));exact HO290.out) (by first|exact Kd.N_base ho0|exact Kd.S_base ho0) hb);have n1_:=Aside0.mk (Kd.R_below (by (with_reducible repeat (first|apply Kd.R_alloc|apply Kd.R_drewN|apply Kd.R_drew));exact HO293.out) hb);have n2_:=Aside0.mk (Kd.R_below (by (with_reducible repeat (first|apply Kd.R_alloc|apply Kd.R_drewN|apply Kd.R_drew));exact HO297.out) hb);have n3_:=Aside0.mk (Kd.R_below (by (with_reducible repeat (first|apply Kd.R_alloc|apply Kd.R_drewN|apply Kd.R_drew));exact HO300.out) hb);have n4_:=Aside0.mk (Kd.R_below (by (with_reducible repeat (first|apply Kd.R_alloc|apply Kd.R_drewN|apply Kd.R_drew));exact HO304.out) hb);have n5_:=Aside0.mk (Kd.R_below (by (with_reducible repeat (first|apply Kd.R_alloc|apply Kd.R_drewN|apply Kd.R_drew));exact HO307.out) hb);have n6_:=Aside0.mk (Kd.R_below (by (with_reducible repeat (first|apply Kd.R_alloc|apply Kd.R_drewN|apply Kd.R_drew));exact HO310.out) hb);have n7_:=Aside0.mk (Kd.N_lower (Kd.N_mono (ok':=fun k_=>some k_≠(.slice Ao22 y288.length co22:Value).ownBlock∧some k_≠(.slice Ao21 y291.length co21:Value).ownBlock∧some k_≠(v296:Value).ownBlock∧some k_≠(.slice Ao26 y298.length co26:Value).ownBlock∧some k_≠(v303:Value).ownBlock∧some k_≠(.slice Ao32 y305.length co32:Value).ownBlock∧some k_≠(.slice Ao33 y308.length co33:Value).ownBlock) (Kd.S_N (Kd.S_bound ho0)) (fun k_ hk_=>⟨(Kd.fresh' (Kd.N_lt (by (with_reducible repeat (first|apply Kd.N_alloc|apply Kd.N_drewN|apply Kd.N_drew));exact HO290.out)) k_ hk_.2.1),(Kd.fresh' (Kd.R_lt (by (with_reducible repeat (first|apply Kd.R_alloc|apply Kd.R_drewN|apply Kd.R_drew));exact HO293.out)) k_ hk_.2.1),(Kd.fresh' (Kd.R_lt (by (with_reducible repeat (first|apply Kd.R_alloc|apply Kd.R_drewN|apply Kd.R_drew));exact HO297.out)) k_ hk_.2.1),(Kd.fresh' (Kd.R_lt (by (with_reducible repeat (first|apply Kd.R_alloc|apply Kd.R_drewN|apply Kd.R_drew));exact HO300.out)) k_ hk_.2.1),(Kd.fresh' (Kd.R_lt (by (with_reducible repeat (first|apply Kd.R_alloc|apply Kd.R_drewN|apply Kd.R_drew));exact HO304.out)) k_ hk_.2.1),(Kd.fresh' (Kd.R_lt (by (with_reducible repeat (first|apply Kd.R_alloc|apply Kd.R_drewN|apply Kd.R_drew));exact HO307.out)) k_ hk_.2.1),(Kd.fresh' (Kd.R_lt (by (with_reducible repeat (first|apply Kd.R_alloc|apply Kd.R_drewN|apply Kd.R_drew));exact HO310.out)) k_ hk_.2.1)⟩)) (below_size bel));have n8_:=Aside0.mk (below_step bel hb);clear HO290;clear HO293;clear HO297;clear HO300;clear HO304;clear HO307;clear HO310;clear HB;have HO290:=n0_;have HO293:=n1_;have HO297:=n2_;have HO300:=n3_;have HO304:=n4_;have HO307:=n5_;have HO310:=n6_;have HO314:=n7_;have HB:=n8_;clear n0_ n1_ n2_ n3_ n4_ n5_ n6_ n7_ n8_;(try clear hb);(try clear hb2);(try clear hk);(try clear hi);(try clear ho0))|((with_reducible refine gate_dst (N:=33) rfl ?_);(try (refine gate_guard (by rfl) ?_;dsimp only));refine Kd.R_lit Kd.string _ 9 ?hg (N:=33) ?hd (xs:=([(⟨#[98]⟩:ByteArray)]:List ByteArray)) (inner:=[.string (⟨#[98]⟩:ByteArray)]) (ok:=fun _=>True) (okp:=fun _=>True) ?hr ?hp (fun _ hk=>hk) trivial (Below.refl _ _) (Nat.le_refl _) (by simp) ?_;(case hd=>rfl);(case hg=>rfl);(case hr=>first|(go_simp;done)|(go_simp;rfl));(case hp=>exact (Reps.one (show Kd.M Kd.string _ _ _ (⟨#[98]⟩:ByteArray) [.string (⟨#[98]⟩:ByteArray)] from rfl) (Reps.none _ _)));intro v316 w35 ho36 hb hg_ hnew_;clear hg_ hnew_;(first|rw [← Ny315.out] at ho36|(simp only [Int.reduceToNat] at ho36;rw [← Ny315.out] at ho36));have n0_:=Aside0.mk (Kd.N_elder' (by (with_reducible repeat (first|apply Kd.N_alloc|apply Kd.N_drewN|apply Kd.N_drew));exact HO290.out) (Kd.R_base ho36) hb);have n1_:=Aside0.mk (Kd.R_elder' (by (with_reducible repeat (first|apply Kd.R_alloc|apply Kd.R_drewN|apply Kd.R_drew));exact HO293.out) (Kd.R_base ho36) hb);have n2_:=Aside0.mk (Kd.R_elder' (by (with_reducible repeat (first|apply Kd.R_alloc|apply Kd.R_drewN|apply Kd.R_drew));exact HO297.out) (Kd.R_base ho36) hb);have n3_:=Aside0.mk (Kd.R_elder' (by (with_reducible repeat (first|apply Kd.R_alloc|apply Kd.R_drewN|apply Kd.R_drew));exact HO300.out) (Kd.R_base ho36) hb);have n4_:=Aside0.mk (Kd.R_elder' (by (with_reducible repeat (first|apply Kd.R_alloc|apply Kd.R_drewN|apply Kd.R_drew));exact HO304.out) (Kd.R_base ho36) hb);have n5_:=Aside0.mk (Kd.R_elder' (by (with_reducible repeat (first|apply Kd.R_alloc|apply Kd.R_drewN|apply Kd.R_drew));exact HO307.out) (Kd.R_base ho36) hb);have n6_:=Aside0.mk (Kd.R_elder' (by (with_reducible repeat (first|apply Kd.R_alloc|apply Kd.R_drewN|apply Kd.R_drew));exact HO310.out) (Kd.R_base ho36) hb);have n7_:=Aside0.mk (Kd.N_elder' (by (with_reducible repeat (first|apply Kd.N_alloc|apply Kd.N_drewN|apply Kd.N_drew));exact HO314.out) (Kd.R_base ho36) hb);have n8_:=Aside0.mk (Kd.R_lower (Kd.R_new' (Kd.R_new' (Kd.R_new' (Kd.R_new' (Kd.R_new' (Kd.R_new' ho36 (Kd.R_lt (by (with_reducible repeat (first|apply Kd.R_alloc|apply Kd.R_drewN|apply Kd.R_drew));exact HO293.out))) (Kd.R_lt (by (with_reducible repeat (first|apply Kd.R_alloc|apply Kd.R_drewN|apply Kd.R_drew));exact HO297.out))) (Kd.R_lt (by (with_reducible repeat (first|apply Kd.R_alloc|apply Kd.R_drewN|apply Kd.R_drew));exact HO300.out))) (Kd.R_lt (by (with_reducible repeat (first|apply Kd.R_alloc|apply Kd.R_drewN|apply Kd.R_drew));exact HO304.out))) (Kd.R_lt (by (with_reducible repeat (first|apply Kd.R_alloc|apply Kd.R_drewN|apply Kd.R_drew));exact HO307.out))) (Kd.R_lt (by (with_reducible repeat (first|apply Kd.R_alloc|apply Kd.R_drewN|apply Kd.R_drew));exact HO310.out))) (below_size bel));have n9_:=Aside0.mk (below_step bel hb);clear HO290;clear HO293;clear HO297;clear HO300;clear HO304;clear HO307;clear HO310;clear HO314;clear HB;have HO290:=n0_;have HO293:=n1_;have HO297:=n2_;have HO300:=n3_;have HO304:=n4_;have HO307:=n5_;have HO310:=n6_;have HO314:=n7_;have HO317:=n8_;have HB:=n9_;clear n0_ n1_ n2_ n3_ n4_ n5_ n6_ n7_ n8_ n9_;clear hb ho36;obtain ⟨Ao37,co37,eo37⟩:=Kd.R_slice HO297.out;subst eo37;obtain ⟨Ao38,co38,eo38⟩:=Kd.R_slice HO317.out;subst eo38)|(go_at_call 14;(with_reducible refine (r01_Texts.calls k _ _ t294 _ _ y315 true _ ?side1 ?side2 ?side3 ?side4 A5.out).mono ?_);(case side1=>repeat (first|exact (Kd.R_reads' HO297.out).2.2|(with_reducible refine Kd.C_alloc ?_ _)|(with_reducible refine Kd.C_drewN ?_ _)|(with_reducible refine Kd.C_drew ?_)));(case side2=>exact (Kd.R_reads' HO297.out).2.1);(case side3=>repeat (first|exact (Kd.R_reads' HO317.out).2.2|(with_reducible refine Kd.C_alloc ?_ _)|(with_reducible refine Kd.C_drewN ?_ _)|(with_reducible refine Kd.C_drew ?_)));(case side4=>exact (Kd.R_reads' HO317.out).2.1);rintro e w' ⟨rfl,⟨nd,rfl⟩⟩;obtain ⟨Ao39,co39,eo39⟩:=Kd.N_slice HO314.out;subst eo39)|(go_at_call 17;(with_reducible refine (r05_Same.calls k _ _ t311 _ _ y288 true _ ?side1 ?side2 ?side3 ?side4 A9.out).mono ?_);(case side1=>repeat (first|exact (Kd.N_reads' HO314.out).2.2|(with_reducible refine Kd.C_alloc ?_ _)|(with_reducible refine Kd.C_drewN ?_ _)|(with_reducible refine Kd.C_drew ?_)));(case side2=>exact (Kd.N_reads' HO314.out).2.1);(case side3=>repeat (first|exact (Kd.N_reads' HO290.out).2.2|(with_reducible refine Kd.C_alloc ?_ _)|(with_reducible refine Kd.C_drewN ?_ _)|(with_reducible refine Kd.C_drew ?_)));(case side4=>exact (Kd.N_reads' HO290.out).2.1);rintro e w40 ⟨rfl,hb⟩;have n0_:=Aside0.mk (Kd.N_below (by (with_reducible repeat (first|apply Kd.N_alloc|apply Kd.N_drewN|apply Kd.N_drew));exact HO290.out) hb);have n1_:=Aside0.mk (Kd.R_below (by (with_reducible repeat (first|apply Kd.R_alloc|apply Kd.R_drewN|apply Kd.R_drew));exact HO293.out) hb);have n2_:=Aside0.mk (Kd.R_below (by (with_reducible repeat (first|apply Kd.R_alloc|apply Kd.R_drewN|apply Kd.R_drew));exact HO297.out) hb);have n3_:=Aside0.mk (Kd.R_below (by (with_reducible repeat (first|apply Kd.R_alloc|apply Kd.R_drewN|apply Kd.R_drew));exact HO300.out) hb);have n4_:=Aside0.mk (Kd.R_below (by (with_reducible repeat (first|apply Kd.R_alloc|apply Kd.R_drewN|apply Kd.R_drew));exact HO304.out) hb);have n5_:=Aside0.mk (Kd.R_below (by (with_reducible repeat (first|apply Kd.R_alloc|apply Kd.R_drewN|apply Kd.R_drew));exact HO307.out) hb);have n6_:=Aside0.mk (Kd.R_below (by (with_reducible repeat (first|apply Kd.R_alloc|apply Kd.R_drewN|apply Kd.R_drew));exact HO310.out) hb);have n7_:=Aside0.mk (Kd.N_below (by (with_reducible repeat (first|apply Kd.N_alloc|apply Kd.N_drewN|apply Kd.N_drew));exact HO314.out) hb);have n8_:=Aside0.mk (Kd.R_below (by (with_reducible repeat (first|apply Kd.R_alloc|apply Kd.R_drewN|apply Kd.R_drew));exact HO317.out) hb);have n9_:=Aside0.mk (below_step bel hb);clear HO290;clear HO293;clear HO297;clear HO300;clear HO304;clear HO307;clear HO310;clear HO314;clear HO317;clear HB;have HO290:=n0_;have HO293:=n1_;have HO297:=n2_;have HO300:=n3_;have HO304:=n4_;have HO307:=n5_;have HO310:=n6_;have HO314:=n7_;have HO317:=n8_;have HB:=n9_;clear n0_ n1_ n2_ n3_ n4_ n5_ n6_ n7_ n8_ n9_;(try clear hb);(try clear hb2);(try clear hk);(try clear hi))|(go_at_call 15;(with_reducible refine (apply_Right.calls k _ _ y288 true _ ?side1 ?side2 A11.out).mono ?_);(case side1=>repeat (first|exact (Kd.N_reads' HO290.out).2.2|(with_reducible refine Kd.C_alloc ?_ _)|(with_reducible refine Kd.C_drewN ?_ _)|(with_reducible refine Kd.C_drew ?_)));(case side2=>exact (Kd.N_reads' HO290.out).2.1);rintro e w41 ⟨rfl,hb⟩;have n0_:=Aside0.mk (Kd.N_below (by (with_reducible repeat (first|apply Kd.N_alloc|apply Kd.N_drewN|apply Kd.N_drew));exact HO290.out) hb);have n1_:=Aside0.mk (Kd.R_below (by (with_reducible repeat (first|apply Kd.R_alloc|apply Kd.R_drewN|apply Kd.R_drew));exact HO293.out) hb);have n2_:=Aside0.mk (Kd.R_below (by (with_reducible repeat (first|apply Kd.R_alloc|apply Kd.R_drewN|apply Kd.R_drew));exact HO297.out) hb);have n3_:=Aside0.mk (Kd.R_below (by (with_reducible repeat (first|apply Kd.R_alloc|apply Kd.R_drewN|apply Kd.R_drew));exact HO300.out) hb);have n4_:=Aside0.mk (Kd.R_below (by (with_reducible repeat (first|apply Kd.R_alloc|apply Kd.R_drewN|apply Kd.R_drew));exact HO304.out) hb);have n5_:=Aside0.mk (Kd.R_below (by (with_reducible repeat (first|apply Kd.R_alloc|apply Kd.R_drewN|apply Kd.R_drew));exact HO307.out) hb);have n6_:=Aside0.mk (Kd.R_below (by (with_reducible repeat (first|apply Kd.R_alloc|apply Kd.R_drewN|apply Kd.R_drew));exact HO310.out) hb);have n7_:=Aside0.mk (Kd.N_below (by (with_reducible repeat (first|apply Kd.N_alloc|apply Kd.N_drewN|apply Kd.N_drew));exact HO314.out) hb);have n8_:=Aside0.mk (Kd.R_below (by (with_reducible repeat (first|apply Kd.R_alloc|apply Kd.R_drewN|apply Kd.R_drew));exact HO317.out) hb);have n9_:=Aside0.mk (below_step bel hb);clear HO290;clear HO293;clear HO297;clear HO300;clear HO304;clear HO307;clear HO310;clear HO314;clear HO317;clear HB;have HO290:=n0_;have HO293:=n1_;have HO297:=n2_;have HO300:=n3_;have HO304:=n4_;have HO307:=n5_;have HO310:=n6_;have HO314:=n7_;have HO317:=n8_;have HB:=n9_;clear n0_ n1_ n2_ n3_ n4_ n5_ n6_ n7_ n8_ n9_;(try clear hb);(try clear hb2);(try clear hk);(try clear hi))|(go_at_call 18;(with_reducible refine (apply_Turn.calls k _ _ y288 t321 _ ?side1 ?side2 A13.out).mono ?_);(case side1=>repeat (first|exact (Kd.N_reads' HO290.out).2.2|(with_reducible refine Kd.C_alloc ?_ _)|(with_reducible refine Kd.C_drewN ?_ _)|(with_reducible refine Kd.C_drew ?_)));(case side2=>exact (Kd.N_reads' HO290.out).2.1);rintro e w42 ⟨v322,rfl,ho0,hb⟩;have n0_:=Aside0.mk (Kd.N_elder' (by (with_reducible repeat (first|apply Kd.N_alloc|apply Kd.N_drewN|apply Kd.N_drew));exact HO290.out) (by first|exact Kd.N_base ho0|exact Kd.S_base ho0) hb);have n1_:=Aside0.mk (Kd.R_below (by (with_reducible repeat (first|apply Kd.R_alloc|apply Kd.R_drewN|apply Kd.R_drew));exact HO293.out) hb);have n2_:=Aside0.mk (Kd.R_below (by (with_reducible repeat (first|apply Kd.R_alloc|apply Kd.R_drewN|apply Kd.R_drew));exact HO297.out) hb);have n3_:=Aside0.mk (Kd.R_below (by (with_reducible repeat (first|apply Kd.R_alloc|apply Kd.R_drewN|apply Kd.R_drew));exact HO300.out) hb);have n4_:=Aside0.mk (Kd.R_below (by (with_reducible repeat (first|apply Kd.R_alloc|apply Kd.R_drewN|apply Kd.R_drew));exact HO304.out) hb);have n5_:=Aside0.mk (Kd.R_below (by (with_reducible repeat (first|apply Kd.R_alloc|apply Kd.R_drewN|apply Kd.R_drew));exact HO307.out) hb);have n6_:=Aside0.mk (Kd.R_below (by (with_reducible repeat (first|apply Kd.R_alloc|apply Kd.R_drewN|apply Kd.R_drew));exact HO310.out) hb);have n7_:=Aside0.mk (Kd.N_elder' (by (with_reducible repeat (first|apply Kd.N_alloc|apply Kd.N_drewN|apply Kd.N_drew));exact HO314.out) (by first|exact Kd.N_base ho0|exact Kd.S_base ho0) hb);have n8_:=Aside0.mk (Kd.R_below (by (with_reducible repeat (first|apply Kd.R_alloc|apply Kd.R_drewN|apply Kd.R_drew));exact HO317.out) hb);have n9_:=Aside0.mk (Kd.N_lower (Kd.N_mono (ok':=fun k_=>some k_≠(.slice Ao22 y288.length co22:Value).ownBlock∧some k_≠(.slice Ao21 y291.length co21:Value).ownBlock∧some k_≠(.slice Ao37 t294.length co37:Value).ownBlock∧some k_≠(.slice Ao26 y298.length co26:Value).ownBlock∧some k_≠(v303:Value).ownBlock∧some k_≠(.slice Ao32 y305.length co32:Value).ownBlock∧some k_≠(.slice Ao33 y308.length co33:Value).ownBlock∧some k_≠(.slice Ao39 t311.length co39:Value).ownBlock∧some k_≠(.slice Ao38 y315.length co38:Value).ownBlock) (Kd.S_N (Kd.S_bound ho0)) (fun k_ hk_=>⟨(Kd.fresh' (Kd.N_lt (by (with_reducible repeat (first|apply Kd.N_alloc|apply Kd.N_drewN|apply Kd.N_drew));exact HO290.out)) k_ hk_.2.1),(Kd.fresh' (Kd.R_lt (by (with_reducible repeat (first|apply Kd.R_alloc|apply Kd.R_drewN|apply Kd.R_drew));exact HO293.out)) k_ hk_.2.1),(Kd.fresh' (Kd.R_lt (by (with_reducible repeat (first|apply Kd.R_alloc|apply Kd.R_drewN|apply Kd.R_drew));exact HO297.out)) k_ hk_.2.1),(Kd.fresh' (Kd.R_lt (by (with_reducible repeat (first|apply Kd.R_alloc|apply Kd.R_drewN|apply Kd.R_drew));exact HO300.out)) k_ hk_.2.1),(Kd.fresh' (Kd.R_lt (by (with_reducible repeat (first|apply Kd.R_alloc|apply Kd.R_drewN|apply Kd.R_drew));exact HO304.out)) k_ hk_.2.1),(Kd.fresh' (Kd.R_lt (by (with_reducible repeat (first|apply Kd.R_alloc|apply Kd.R_drewN|apply Kd.R_drew));exact HO307.out)) k_ hk_.2.1),(Kd.fresh' (Kd.R_lt (by (with_reducible repeat (first|apply Kd.R_alloc|apply Kd.R_drewN|apply Kd.R_drew));exact HO310.out)) k_ hk_.2.1),(Kd.fresh' (Kd.N_lt (by (with_reducible repeat (first|apply Kd.N_alloc|apply Kd.N_drewN|apply Kd.N_drew));exact HO314.out)) k_ hk_.2.1),(Kd.fresh' (Kd.R_lt (by (with_reducible repeat (first|apply Kd.R_alloc|apply Kd.R_drewN|apply Kd.R_drew));exact HO317.out)) k_ hk_.2.1)⟩)) (below_size bel));have n10_:=Aside0.mk (below_step bel hb);clear HO290;clear HO293;clear HO297;clear HO300;clear HO304;clear HO307;clear HO310;clear HO314;clear HO317;clear HB;have HO290:=n0_;have HO293:=n1_;have HO297:=n2_;have HO300:=n3_;have HO304:=n4_;have HO307:=n5_;have HO310:=n6_;have HO314:=n7_;have HO317:=n8_;have HO323:=n9_;have HB:=n10_;clear n0_ n1_ n2_ n3_ n4_ n5_ n6_ n7_ n8_ n9_ n10_;(try clear hb);(try clear hb2);(try clear hk);(try clear hi);(try clear ho0);obtain ⟨Ao43,co43,eo43⟩:=Kd.N_slice HO323.out;subst eo43))
 go_ret
 exact ⟨by first|rfl|(simp [errW_none,errW_some]<;>rfl)|(simp [*,errW_none,errW_some]<;>rfl),bel⟩
end Go.Proofs.Ytoaijganmfijmaa.Pr
-- shrunk
/-
The chapter's example of layer 7: it answers true.
-/
namespace Go.Proofs.Ytoaijganmfijmaa.Pr
open Go.RowKit Go.Proofs.YtoaijganmfijmaaW.PrintWords Go.Proofs.YtoaijganmfijmaaW.PrintLast Go.Proofs.YtoaijganmfijmaaW.PrintMore
def l07_awake.f:Option Bool:=some true
def ex1:ByteArray:=⟨#[97]⟩
def ex2:ByteArray:=⟨#[98]⟩
def ex3:ByteArray:=⟨#[99]⟩
def exP:Ed:=⟨0,1,[ex2]⟩
def exQ:Hk:=⟨0,1,0,1,blkLines [⟨[],[ex1],[ex2]⟩] []⟩
theorem exQ_eq:exQ=⟨0,1,0,1,[(⟨#[45,97]⟩:ByteArray),(⟨#[43,98]⟩:ByteArray)]⟩:=by
 have hl:blkLines [⟨[],[ex1],[ex2]⟩] []=[(⟨#[45,97]⟩:ByteArray),(⟨#[43,98]⟩:ByteArray)]:=by decide
 rw [exQ,hl]
theorem exOk:BOk true [⟨[],[ex1],[ex2]⟩]:=⟨Or.inl (by simp),Or.inl rfl,trivial⟩
theorem exTakes:Takes [ex1] [ex2] 0 0 [exQ]:=by
 refine ⟨0,0,[⟨[],[ex1],[ex2]⟩],[],⟨rfl,Nat.le_refl _,Nat.le_refl _,?_,?_,rfl,?_,?_,exOk⟩,?_⟩
 ·simp [oldN]
 ·simp [newN]
 ·simp [oldN,oldL]
 ·simp [newN,newL]
 refine ⟨?_,?_,?_⟩<;>simp [oldN,newN]
theorem exBetween:between [ex1] [ex2]=[exP]:=by
 have e:¬ ex1=ex2:=by decide
 simp [between,midEdits,midOf,endOf,frontOf,common,steps,lcsLen,edits,addDel,addIns,opened,edLast,e,exP]
theorem exMake:makeH [ex1] 0 0 [exP]=[exQ]:=by
 have e1:fromH exP 0=0:=rfl
 have e2:toH [ex1] exP [] 0=1:=rfl
 have e3:linesH [ex1] 0 exP []=blkLines [⟨[],[ex1],[ex2]⟩] []:=rfl
 rw [makeH,grp,makeH,hunkOf,e1,e2,e3]
 rfl
theorem exLines:exQ.f4.length=2:=by rw [exQ_eq];rfl
theorem exSmall (a:List ByteArray) (h:a.length≤65536):SmallA a [exQ]:=by
 refine ⟨h,by simp,fun x hx=>?_⟩
 rw [List.mem_singleton] at hx
 subst hx
 exact ⟨by rw [exLines];omega,by decide,by decide,by decide,by decide⟩
theorem exYes:apply_Apply.f [ex1] [exQ]=some ([ex2],0):=by
 rw [apply_Apply.f,if_pos (exSmall _ (by simp)),takes_applyP exTakes]
theorem exNo:apply_Apply.f [ex3] [exQ]=some ([],6):=by
 have hr:=takes_right _ _ _ _ _ exTakes
 have h:=(exact_all [ex1] [ex2] 0 ex3 (by simp) (by decide) [exQ] 0 0 [] exTakes (Nat.le_refl _)).1 ⟨exQ,List.mem_singleton.2 rfl,by decide,by decide⟩
 have e:[ex1].set 0 ex3=[ex3]:=rfl
 rw [e] at h
 rw [apply_Apply.f,if_pos (exSmall _ (by simp)),applyP,if_pos (by simpa using hr),h]
theorem exBig:BigL [exQ]:=by
 intro x hx
 rw [List.mem_singleton] at hx
 subst hx
 refine ⟨by rw [exLines];omega,fun s hs=>?_⟩
 rw [exQ_eq] at hs
 simp only [List.mem_cons,List.not_mem_nil,or_false] at hs
 rcases hs with rfl|rfl<;>show 2≤_<;>omega
theorem awake_ev:Ev (fun k=>l07_awake0.f k) true:=by
 unfold l07_awake0.f
 rw [← exQ_eq,show (⟨#[97]⟩:ByteArray)=ex1 from rfl,show (⟨#[98]⟩:ByteArray)=ex2 from rfl,show (⟨#[99]⟩:ByteArray)=ex3 from rfl]
 have hm:=Make_ev [ex1] [exP] 0 (by simp) (by simp) (by intro s hs;rw [List.mem_singleton] at hs;subst hs;show 1≤_;omega) (by intro e he s hs;rw [List.mem_singleton] at he;subst he;rw [exP,List.mem_singleton] at hs;subst hs;show 1≤_;omega) (by omega) (by omega) (by decide) (by decide)
 rw [exMake] at hm
 have hb:Ev (fun k=>apply_Between.f k [ex1] [ex2] 0) ([exQ],0):=by
  unfold apply_Between.f
  refine Ev.bind (a:=[exP]) (Ev.none_of fun _=>by rw [diff_Diff.f,if_pos (by simp),exBetween]) ?_
  refine Ev.bind hm ?_
  exact Ev.now _
 have hr:=takes_right _ _ _ _ _ exTakes
 refine Ev.bind (Ev.none_of fun _=>rfl) ?_
 refine Ev.bind (Ev.none_of fun _=>exYes) ?_
 refine Ev.bind (Ev.none_of fun _=>exNo) ?_
 refine Ev.bind hb ?_
 simp only [if_true]
 have ht:=Texts_ev [ex2] [ex2] (by simp)
 rw [decide_eq_true rfl] at ht
 refine Ev.bind ht ?_
 simp only [if_true]
 refine Ev.bind (SameH_ev [exQ] (by simp) (by intro x hx;rw [List.mem_singleton] at hx;subst hx;rw [exLines];omega)) ?_
 simp only [if_true]
 have hri:=ARight_ev (exSmall [ex1] (by simp))
 rw [show rightP 0 0 [exQ]=true by simpa using hr] at hri
 refine Ev.bind hri ?_
 simp only [if_true]
 obtain ⟨m,hm1,hm2⟩:=takes_turn _ _ _ _ _ exTakes
 refine Ev.bind (ATurn_ev (exSmall [ex1] (by simp)) exBig (by simpa using hr) hm1) ?_
 rw [turned_len hm1]
 exact Ev.now _
theorem l07_awake.calls (r:Bool) (w:World) (h:l07_awake.f=some r) :
  Calls Try.prog 10 #[] w fun e w'=>e=.returned (.bool r)∧Below w.heap.size w w':=by
 obtain rfl:true=r:=Option.some.inj h
 obtain ⟨k,hk⟩:=awake_ev.rounds
 exact l07_awake0.calls k true w ⟨rfl⟩ hk
end Go.Proofs.Ytoaijganmfijmaa.Pr
-- shrunk
