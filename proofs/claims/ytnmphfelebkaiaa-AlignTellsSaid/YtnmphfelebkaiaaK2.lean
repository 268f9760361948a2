/-
Several plain texts in one.
-/
import Derived.RegionTactic
import Derived.BigRegion
import Derived.Test.YtnmphfelebkaiaaK1
import Derived.Sort.CutIn
import Derived.WalkMore
import Derived.Test.YtnmphfelebkaiaaK0
set_option linter.unusedVariables false
set_option linter.unusedSimpArgs false
/-
align.next and a cluster's take: regions that draw their order (printed by gregc.py).
-/
namespace Go.Proofs.Ytnmphfelebkaiaa.Pr
open Go.RowKit Go.Proofs.YtnmphfelebkaiaaW.PrintWords Go.Proofs.YtnmphfelebkaiaaW.PrintLast Go.Proofs.YtnmphfelebkaiaaW.PrintMore
def gnext_1.T1:Bool × List (List Nat × List Nat):=(true,[([],[]),([0],[0]),([],[]),([1,2],[1,2]),([],[]),([4],[4]),([],[]),([],[]),([7],[7]),([6,8],[6,8]),([5,9,3],[5,9]),([],[]),([11],[11]),([],[]),([],[]),([14],[14]),([13,15],[13,15]),([12,16,10],[12,16]),([3,10,17],[3,10,17]),([18,17,0,1,2,3,4,5,6,7,8,9,10,11,12,13,14,15,16,17,18],[18])])
def gnext_1.B1:List Nat:=[0,1,0,7,0,16,0,0,128,448,1023,0,2048,0,0,16384,57344,131071,262143,524287]
theorem gnext_1.tab1:rtab .any (opsOf Try.f15 1)=gnext_1.T1:=by kernel_rfl
theorem gnext_1.bits1:waitsOk gnext_1.T1.2 gnext_1.B1=true:=by kernel_rfl
set_option maxRecDepth 100000 in
set_option maxHeartbeats 4000000 in
theorem next_calls (q a0 a1 b0 b1 c0 c1 m m0 m1:Int) (w:World) (hB:-1152921504606846976≤a0∧a0≤1152921504606846976 ∧ -1152921504606846976≤a1∧a1≤1152921504606846976 ∧ -1152921504606846976≤b0∧b0≤1152921504606846976 ∧ -1152921504606846976≤b1∧b1≤1152921504606846976 ∧ -1152921504606846976≤c0∧c0≤1152921504606846976 ∧ -1152921504606846976≤c1∧c1≤1152921504606846976 ∧ -1152921504606846976≤m∧m≤1152921504606846976 ∧ -1152921504606846976≤m0∧m0≤1152921504606846976 ∧ -1152921504606846976≤m1∧m1≤1152921504606846976) :
  Calls Try.prog 15 #[.agg #[.int .i64 q,.int .i64 a0,.int .i64 a1,.int .i64 b0,.int .i64 b1,.int .i64 c0,.int .i64 c1],.int .i64 m,.agg #[.int .i64 m0,.int .i64 m1]] w fun e w'=>e=.returned (.agg #[.int .i64 0,.int .i64 (a0+a1),.int .i64 m,.int .i64 (b0+b1),.int .i64 (m+m0),.int .i64 (c0+c1),.int .i64 (m+m1)])∧Below w.heap.size w w':=by
 have hu30:=Try.underlying30
 have hu32:=Try.underlying32
 have hu34:=Try.underlying34
 have k0:IntKind.i64.wrap (m+m0)=m+m0:=IntWalk.i64_in _ (by omega)
 have k1:IntKind.i64.wrap (m+m1)=m+m1:=IntWalk.i64_in _ (by omega)
 have H0:=Aside0.mk (show -4611686018427387904≤a0∧a0<4611686018427387904 ∧ -4611686018427387904≤a1∧a1<4611686018427387904 by omega)
 have H1:=Aside0.mk (show -4611686018427387904≤b0∧b0<4611686018427387904 ∧ -4611686018427387904≤b1∧b1<4611686018427387904 by omega)
 have H2:=Aside0.mk (show -4611686018427387904≤c0∧c0<4611686018427387904 ∧ -4611686018427387904≤c1∧c1<4611686018427387904 by omega)
 clear hB
 go_enter Try.func15,Try.ntmps15
 go_upto_region 1 with (fail)
 have HG:=Aside0.mk (blk_alloc (blk_alloc (blk_new w (.cells #[.int .i64 q,.int .i64 a0,.int .i64 a1,.int .i64 b0,.int .i64 b1,.int .i64 c0,.int .i64 c1] 32 (0,0))) (.cells #[.int .i64 m0,.int .i64 m1] 34 (0,0))) (.cells #[.int .i64 0,.int .i64 0,.int .i64 0,.int .i64 0,.int .i64 0,.int .i64 0,.int .i64 0] 32 (0,0)))
 have HG1:=Aside0.mk (blk_alloc (blk_new2 w (.cells #[.int .i64 q,.int .i64 a0,.int .i64 a1,.int .i64 b0,.int .i64 b1,.int .i64 c0,.int .i64 c1] 32 (0,0)) (.cells #[.int .i64 m0,.int .i64 m1] 34 (0,0))) (.cells #[.int .i64 0,.int .i64 0,.int .i64 0,.int .i64 0,.int .i64 0,.int .i64 0,.int .i64 0] 32 (0,0)))
 have HG2:=Aside0.mk (blk_new3 w (.cells #[.int .i64 q,.int .i64 a0,.int .i64 a1,.int .i64 b0,.int .i64 b1,.int .i64 c0,.int .i64 c1] 32 (0,0)) (.cells #[.int .i64 m0,.int .i64 m1] 34 (0,0)) (.cells #[.int .i64 0,.int .i64 0,.int .i64 0,.int .i64 0,.int .i64 0,.int .i64 0,.int .i64 0] 32 (0,0)))
 have HB:=Aside0.mk (below_alloc (below_alloc (below_alloc (Below.refl w.heap.size w) (.cells #[.int .i64 q,.int .i64 a0,.int .i64 a1,.int .i64 b0,.int .i64 b1,.int .i64 c0,.int .i64 c1] 32 (0,0))) (.cells #[.int .i64 m0,.int .i64 m1] 34 (0,0))) (.cells #[.int .i64 0,.int .i64 0,.int .i64 0,.int .i64 0,.int .i64 0,.int .i64 0,.int .i64 0] 32 (0,0)))
 have hg2:w.heap.size≤w.heap.size+1+1:=by omega
 generalize ((w.alloc (.cells #[.int .i64 q,.int .i64 a0,.int .i64 a1,.int .i64 b0,.int .i64 b1,.int .i64 c0,.int .i64 c1] 32 (0,0))).alloc (.cells #[.int .i64 m0,.int .i64 m1] 34 (0,0))).alloc (.cells #[.int .i64 0,.int .i64 0,.int .i64 0,.int .i64 0,.int .i64 0,.int .i64 0,.int .i64 0] 32 (0,0))=W1 at HG HG1 HG2 HB ⊢
 have HW:=Aside0.mk hg2
 clear hg2
 generalize w.heap.size+1=g1 at HG1 HG2 HW ⊢
 generalize g1+1=g2 at HW HG2 ⊢
 obtain ⟨g,hg⟩:∃ g,g=w.heap.size:=⟨_,rfl⟩
 rw [← hg] at HG ⊢
 have HGg:=Aside0.mk hg
 clear hg
 have za0:W1.drew.cell? ⟨g,1,none⟩=some (.int .i64 a0):=(blk_cell HG.out 1).trans rfl
 have za1:W1.drew.cell? ⟨g,2,none⟩=some (.int .i64 a1):=(blk_cell HG.out 2).trans rfl
 have za2:W1.drew.cell? ⟨g,3,none⟩=some (.int .i64 b0):=(blk_cell HG.out 3).trans rfl
 have za3:W1.drew.cell? ⟨g,4,none⟩=some (.int .i64 b1):=(blk_cell HG.out 4).trans rfl
 have za4:W1.drew.cell? ⟨g,5,none⟩=some (.int .i64 c0):=(blk_cell HG.out 5).trans rfl
 have za5:W1.drew.cell? ⟨g,6,none⟩=some (.int .i64 c1):=(blk_cell HG.out 6).trans rfl
 have za6:W1.drew.cell? ⟨g1,0,none⟩=some (.int .i64 m0):=(blk_cell HG1.out 0).trans rfl
 have za7:W1.drew.cell? ⟨g1,1,none⟩=some (.int .i64 m1):=(blk_cell HG1.out 1).trans rfl
 have HZa:=Aside0.mk (show W1.drew.heap[g2]?=some (.cells #[.int .i64 0,.int .i64 0,.int .i64 0,.int .i64 0,.int .i64 0,.int .i64 0,.int .i64 0] 32 (0,0)) from HG2.out)
 have HBa:=Aside0.mk (below_drew1 HB.out)
 refine start_ (n:=20) (S:=fun w'=>w'.cell? ⟨g,1,none⟩=some (.int .i64 a0)∧w'.cell? ⟨g,2,none⟩=some (.int .i64 a1)∧w'.cell? ⟨g,3,none⟩=some (.int .i64 b0)∧w'.cell? ⟨g,4,none⟩=some (.int .i64 b1)∧w'.cell? ⟨g,5,none⟩=some (.int .i64 c0)∧w'.cell? ⟨g,6,none⟩=some (.int .i64 c1)∧w'.cell? ⟨g1,0,none⟩=some (.int .i64 m0)∧w'.cell? ⟨g1,1,none⟩=some (.int .i64 m1)) (ds:=[19]) #[false,false,false,false,false,false,false,false,false,false,false,false,false,false,false,false,false,false,false,false] (by kernel_rfl) rfl rfl ⟨za0,za1,za2,za3,za4,za5,za6,za7⟩ (fun hHeld=>?_)
 refine with_tabW gnext_1.tab1 gnext_1.bits1 (fun HT_ HW_=>?_)
 generalize W1.drew=W2 at za0 za1 za2 za3 za4 za5 za6 za7 HZa HBa hHeld ⊢
 refine pure_ (i:=0) (N:=some 7) (v:=?_) (a':=?_) #[true,false,false,false,false,false,false,false,false,false,false,false,false,false,false,false,false,false,false,false] rfl rfl (any_of HT_.out (by kernel_rfl)) (fun _ _ _ h=>h) (Or.inl ⟨by rfl,?_⟩) ?_ ?_
 rotate_left
 ·intro w'
  go_simp
  with_reducible rfl
 rotate_left
 ·simp only [Act.put,List.setIfInBounds_toArray,List.set_cons_zero,List.set_cons_succ,i64_w,i32_w]
  rfl
 refine pure_ (i:=2) (N:=some 9) (v:=?_) (a':=?_) #[true,false,true,false,false,false,false,false,false,false,false,false,false,false,false,false,false,false,false,false] rfl rfl (any_of HT_.out (by kernel_rfl)) (fun _ _ _ h=>h) (Or.inl ⟨by rfl,?_⟩) ?_ ?_
 rotate_left
 ·intro w'
  go_simp
  with_reducible rfl
 rotate_left
 ·simp only [Act.put,List.setIfInBounds_toArray,List.set_cons_zero,List.set_cons_succ,i64_w,i32_w]
  rfl
 refine pure_ (i:=4) (N:=some 11) (v:=?_) (a':=?_) #[true,false,true,false,true,false,false,false,false,false,false,false,false,false,false,false,false,false,false,false] rfl rfl (any_of HT_.out (by kernel_rfl)) (fun _ _ _ h=>h) (Or.inl ⟨by rfl,?_⟩) ?_ ?_
 rotate_left
 ·intro w'
  go_simp
  with_reducible rfl
 rotate_left
 ·simp only [Act.put,List.setIfInBounds_toArray,List.set_cons_zero,List.set_cons_succ,i64_w,i32_w]
  rfl
 refine pure_ (i:=6) (N:=some 13) (v:=?_) (a':=?_) #[true,false,true,false,true,false,true,false,false,false,false,false,false,false,false,false,false,false,false,false] rfl rfl (any_of HT_.out (by kernel_rfl)) (fun _ _ _ h=>h) (Or.inl ⟨by rfl,?_⟩) ?_ ?_
 rotate_left
 ·intro w'
  go_simp
  with_reducible rfl
 rotate_left
 ·simp only [Act.put,List.setIfInBounds_toArray,List.set_cons_zero,List.set_cons_succ,i64_w,i32_w]
  rfl
 refine pure_ (i:=7) (N:=some 14) (v:=?_) (a':=?_) #[true,false,true,false,true,false,true,true,false,false,false,false,false,false,false,false,false,false,false,false] rfl rfl (any_of HT_.out (by kernel_rfl)) (fun _ _ _ h=>h) (Or.inl ⟨by rfl,?_⟩) ?_ ?_
 rotate_left
 ·intro w'
  go_simp
  with_reducible rfl
 rotate_left
 ·simp only [Act.put,List.setIfInBounds_toArray,List.set_cons_zero,List.set_cons_succ,i64_w,i32_w]
  rfl
 refine pure_ (i:=11) (N:=some 18) (v:=?_) (a':=?_) #[true,false,true,false,true,false,true,true,false,false,false,true,false,false,false,false,false,false,false,false] rfl rfl (any_of HT_.out (by kernel_rfl)) (fun _ _ _ h=>h) (Or.inl ⟨by rfl,?_⟩) ?_ ?_
 rotate_left
 ·intro w'
  go_simp
  with_reducible rfl
 rotate_left
 ·simp only [Act.put,List.setIfInBounds_toArray,List.set_cons_zero,List.set_cons_succ,i64_w,i32_w]
  rfl
 refine pure_ (i:=13) (N:=some 20) (v:=?_) (a':=?_) #[true,false,true,false,true,false,true,true,false,false,false,true,false,true,false,false,false,false,false,false] rfl rfl (any_of HT_.out (by kernel_rfl)) (fun _ _ _ h=>h) (Or.inl ⟨by rfl,?_⟩) ?_ ?_
 rotate_left
 ·intro w'
  go_simp
  with_reducible rfl
 rotate_left
 ·simp only [Act.put,List.setIfInBounds_toArray,List.set_cons_zero,List.set_cons_succ,i64_w,i32_w]
  rfl
 refine pure_ (i:=14) (N:=some 21) (v:=?_) (a':=?_) #[true,false,true,false,true,false,true,true,false,false,false,true,false,true,true,false,false,false,false,false] rfl rfl (any_of HT_.out (by kernel_rfl)) (fun _ _ _ h=>h) (Or.inl ⟨by rfl,?_⟩) ?_ ?_
 rotate_left
 ·intro w'
  go_simp
  with_reducible rfl
 rotate_left
 ·simp only [Act.put,List.setIfInBounds_toArray,List.set_cons_zero,List.set_cons_succ,i64_w,i32_w]
  rfl
 refine take_ (i:=1) (N:=some 8) (v:=?_) (a':=?_) #[true,true,true,false,true,false,true,true,false,false,false,true,false,true,true,false,false,false,false,false] rfl rfl (take_ofW HT_.out HW_.out (by kernel_rfl)) (fun _ _ _ h=>h) (Or.inl ⟨by rfl,?_⟩) hHeld ?_ ?_
 rotate_left
 ·rintro w' ⟨s0,s1,s2,s3,s4,s5,s6,s7⟩
  go_simp
  with_reducible rfl
 rotate_left
 ·simp only [Act.put,List.setIfInBounds_toArray,List.set_cons_zero,List.set_cons_succ,i64_w,i32_w]
  rfl
 refine take_ (i:=5) (N:=some 12) (v:=?_) (a':=?_) #[true,true,true,false,true,true,true,true,false,false,false,true,false,true,true,false,false,false,false,false] rfl rfl (take_ofW HT_.out HW_.out (by kernel_rfl)) (fun _ _ _ h=>h) (Or.inl ⟨by rfl,?_⟩) hHeld ?_ ?_
 rotate_left
 ·rintro w' ⟨s0,s1,s2,s3,s4,s5,s6,s7⟩
  go_simp
  with_reducible rfl
 rotate_left
 ·simp only [Act.put,List.setIfInBounds_toArray,List.set_cons_zero,List.set_cons_succ,i64_w,i32_w]
  rfl
 refine take_ (i:=8) (N:=some 15) (v:=?_) (a':=?_) #[true,true,true,false,true,true,true,true,true,false,false,true,false,true,true,false,false,false,false,false] rfl rfl (take_ofW HT_.out HW_.out (by kernel_rfl)) (fun _ _ _ h=>h) (Or.inl ⟨by rfl,?_⟩) hHeld ?_ ?_
 rotate_left
 ·rintro w' ⟨s0,s1,s2,s3,s4,s5,s6,s7⟩
  go_simp
  with_reducible rfl
 rotate_left
 ·simp only [Act.put,List.setIfInBounds_toArray,List.set_cons_zero,List.set_cons_succ,i64_w,i32_w]
  rfl
 refine pure_ (i:=9) (N:=some 16) (v:=?_) (a':=?_) #[true,true,true,false,true,true,true,true,true,true,false,true,false,true,true,false,false,false,false,false] rfl rfl (any_of HT_.out (by kernel_rfl)) (fun _ _ _ h=>h) (Or.inl ⟨by rfl,?_⟩) ?_ ?_
 rotate_left
 ·intro w'
  go_simp
  with_reducible rfl
 rotate_left
 ·simp only [Act.put,List.setIfInBounds_toArray,List.set_cons_zero,List.set_cons_succ,i64_w,i32_w]
  rfl
 refine take_ (i:=12) (N:=some 19) (v:=?_) (a':=?_) #[true,true,true,false,true,true,true,true,true,true,false,true,true,true,true,false,false,false,false,false] rfl rfl (take_ofW HT_.out HW_.out (by kernel_rfl)) (fun _ _ _ h=>h) (Or.inl ⟨by rfl,?_⟩) hHeld ?_ ?_
 rotate_left
 ·rintro w' ⟨s0,s1,s2,s3,s4,s5,s6,s7⟩
  go_simp
  with_reducible rfl
 rotate_left
 ·simp only [Act.put,List.setIfInBounds_toArray,List.set_cons_zero,List.set_cons_succ,i64_w,i32_w]
  rfl
 refine take_ (i:=15) (N:=some 22) (v:=?_) (a':=?_) #[true,true,true,false,true,true,true,true,true,true,false,true,true,true,true,true,false,false,false,false] rfl rfl (take_ofW HT_.out HW_.out (by kernel_rfl)) (fun _ _ _ h=>h) (Or.inl ⟨by rfl,?_⟩) hHeld ?_ ?_
 rotate_left
 ·rintro w' ⟨s0,s1,s2,s3,s4,s5,s6,s7⟩
  go_simp
  with_reducible rfl
 rotate_left
 ·simp only [Act.put,List.setIfInBounds_toArray,List.set_cons_zero,List.set_cons_succ,i64_w,i32_w]
  rfl
 refine pure_ (i:=16) (N:=some 23) (v:=?_) (a':=?_) #[true,true,true,false,true,true,true,true,true,true,false,true,true,true,true,true,true,false,false,false] rfl rfl (any_of HT_.out (by kernel_rfl)) (fun _ _ _ h=>h) (Or.inl ⟨by rfl,?_⟩) ?_ ?_
 rotate_left
 ·intro w'
  go_simp
  with_reducible rfl
 rotate_left
 ·simp only [Act.put,List.setIfInBounds_toArray,List.set_cons_zero,List.set_cons_succ,i64_w,i32_w]
  rfl
 refine one_ (i:=3) (N:=some 10) #[true,true,true,true,true,true,true,true,true,true,false,true,true,true,true,true,true,false,false,false] rfl rfl (one_of HT_.out (by kernel_rfl)) (by decide) (fun K hK=>?_)
 refine goes_ Try.func25 (by kernel_rfl) rfl #[.agg #[.int .i64 a0,.int .i64 a1],.int .i64 m] (by rfl) rfl rfl (by simp only [List.map_toArray,List.map_cons,List.map_nil];rfl) ?_
 with_reducible refine (behind_calls a0 a1 m _ H0.out).mono ?_
 rintro e w3 ⟨rfl,hb⟩
 refine ⟨_,rfl,?_⟩
 have zb0:=pw_cell_below hb za0
 have zb1:=pw_cell_below hb za1
 have zb2:=pw_cell_below hb za2
 have zb3:=pw_cell_below hb za3
 have zb4:=pw_cell_below hb za4
 have zb5:=pw_cell_below hb za5
 have zb6:=pw_cell_below hb za6
 have zb7:=pw_cell_below hb za7
 have HZb:=Aside0.mk (blk_below HZa.out hb)
 have HBb:=Aside0.mk (below_step HBa.out hb)
 clear hb za0 za1 za2 za3 za4 za5 za6 za7
 refine hK.out _ _ ⟨zb0,zb1,zb2,zb3,zb4,zb5,zb6,zb7⟩ (fun hHeld=>?_)
 clear hK K
 refine norm_ (a':=?_) ?_ ?_
 rotate_left
 ·show Act.put _ (some 10) _=_
  simp only [Act.put,List.setIfInBounds_toArray,List.set_cons_zero,List.set_cons_succ,i64_w,i32_w]
  rfl
 refine one_ (i:=10) (N:=some 17) #[true,true,true,true,true,true,true,true,true,true,true,true,true,true,true,true,true,false,false,false] rfl rfl (one_of HT_.out (by kernel_rfl)) (by decide) (fun K hK=>?_)
 refine goes_ Try.func25 (by kernel_rfl) rfl #[.agg #[.int .i64 b0,.int .i64 b1],.int .i64 (m+m0)] (by rfl) rfl rfl (by simp only [List.map_toArray,List.map_cons,List.map_nil];rfl) ?_
 with_reducible refine (behind_calls b0 b1 (m+m0) _ H1.out).mono ?_
 rintro e w4 ⟨rfl,hb⟩
 refine ⟨_,rfl,?_⟩
 have zc0:=pw_cell_below hb zb0
 have zc1:=pw_cell_below hb zb1
 have zc2:=pw_cell_below hb zb2
 have zc3:=pw_cell_below hb zb3
 have zc4:=pw_cell_below hb zb4
 have zc5:=pw_cell_below hb zb5
 have zc6:=pw_cell_below hb zb6
 have zc7:=pw_cell_below hb zb7
 have HZc:=Aside0.mk (blk_below HZb.out hb)
 have HBc:=Aside0.mk (below_step HBb.out hb)
 clear hb zb0 zb1 zb2 zb3 zb4 zb5 zb6 zb7
 refine hK.out _ _ ⟨zc0,zc1,zc2,zc3,zc4,zc5,zc6,zc7⟩ (fun hHeld=>?_)
 clear hK K
 refine norm_ (a':=?_) ?_ ?_
 rotate_left
 ·show Act.put _ (some 17) _=_
  simp only [Act.put,List.setIfInBounds_toArray,List.set_cons_zero,List.set_cons_succ,i64_w,i32_w]
  rfl
 refine one_ (i:=17) (N:=some 24) #[true,true,true,true,true,true,true,true,true,true,true,true,true,true,true,true,true,true,false,false] rfl rfl (one_of HT_.out (by kernel_rfl)) (by decide) (fun K hK=>?_)
 refine goes_ Try.func25 (by kernel_rfl) rfl #[.agg #[.int .i64 c0,.int .i64 c1],.int .i64 (m+m1)] (by rfl) rfl rfl (by simp only [List.map_toArray,List.map_cons,List.map_nil];rfl) ?_
 with_reducible refine (behind_calls c0 c1 (m+m1) _ H2.out).mono ?_
 rintro e w5 ⟨rfl,hb⟩
 refine ⟨_,rfl,?_⟩
 have zd0:=pw_cell_below hb zc0
 have zd1:=pw_cell_below hb zc1
 have zd2:=pw_cell_below hb zc2
 have zd3:=pw_cell_below hb zc3
 have zd4:=pw_cell_below hb zc4
 have zd5:=pw_cell_below hb zc5
 have zd6:=pw_cell_below hb zc6
 have zd7:=pw_cell_below hb zc7
 have HZd:=Aside0.mk (blk_below HZc.out hb)
 have HBd:=Aside0.mk (below_step HBc.out hb)
 clear hb zc0 zc1 zc2 zc3 zc4 zc5 zc6 zc7
 have y0:=(blk_cell HZd.out 0).trans rfl
 have y1:=(blk_cell HZd.out 1).trans rfl
 have y2:=(blk_cell HZd.out 2).trans rfl
 have y3:=(blk_cell HZd.out 3).trans rfl
 have y4:=(blk_cell HZd.out 4).trans rfl
 have y5:=(blk_cell HZd.out 5).trans rfl
 have y6:=(blk_cell HZd.out 6).trans rfl
 have f0:=blk_frozen HZd.out 0
 have f1:=blk_frozen HZd.out 1
 have f2:=blk_frozen HZd.out 2
 have f3:=blk_frozen HZd.out 3
 have f4:=blk_frozen HZd.out 4
 have f5:=blk_frozen HZd.out 5
 have f6:=blk_frozen HZd.out 6
 refine hK.out _ _ ⟨zd0,zd1,zd2,zd3,zd4,zd5,zd6,zd7⟩ (fun hHeld=>?_)
 clear hK K
 refine norm_ (a':=?_) ?_ ?_
 rotate_left
 ·show Act.put _ (some 24) _=_
  simp only [Act.put,List.setIfInBounds_toArray,List.set_cons_zero,List.set_cons_succ,i64_w,i32_w]
  rfl
 refine pure_ (i:=18) (N:=some 25) (v:=?_) (a':=?_) #[true,true,true,true,true,true,true,true,true,true,true,true,true,true,true,true,true,true,true,false] rfl rfl (any_of HT_.out (by kernel_rfl)) (fun _ _ _ h=>h) (Or.inl ⟨by rfl,?_⟩) ?_ ?_
 rotate_left
 ·intro w'
  go_simp
  with_reducible rfl
 rotate_left
 ·simp only [Act.put,List.setIfInBounds_toArray,List.set_cons_zero,List.set_cons_succ,i64_w,i32_w]
  rfl
 refine last_ (i:=19) (N:=none) #[true,true,true,true,true,true,true,true,true,true,true,true,true,true,true,true,true,true,true,true] rfl rfl (one_of HT_.out (by kernel_rfl)) (by decide) (fun K hK=>?_)
 refine skip_ (w1:=?_) (by rfl) rfl ?_ ?_
 rotate_left
 ·go_simp
  rfl
 refine hK.out _ _ ?_
 clear hK K
 refine done_ (done_of HT_.out (by kernel_rfl)) ?_

 go_wp2
 refine bodyPost_ret (results_cell_row rfl _ _ g2 32 #[.int .i64 0,.int .i64 (a0+a1),.int .i64 m,.int .i64 (b0+b1),.int .i64 (m+m0),.int .i64 (c0+c1),.int .i64 (m+m1)] (0,0) _ rfl (blk_put (blk_put (blk_put (blk_put (blk_put (blk_put (blk_put HZd.out 0 _ rfl) 1 _ rfl) 2 _ rfl) 3 _ rfl) 4 _ rfl) 5 _ rfl) 6 _ rfl) Try.underlying32 rfl (by kernel_rfl)) rfl ?_
 exact ⟨rfl,(below_set (below_set (below_set (below_set (below_set (below_set (below_set HBd.out HW.out) HW.out) HW.out) HW.out) HW.out) HW.out) HW.out)⟩
def gtake_1.T1:Bool × List (List Nat × List Nat):=(true,[([],[]),([],[]),([1],[1]),([2],[2]),([3],[3]),([],[]),([5],[5]),([4,6],[4,6]),([0,0,1,2,3,4,5,6,7],[0]),([8,0,1,2,3,4,5,6,7],[8]),([9,7,6,0,1,2,3,4,5,6,7],[7,9])])
def gtake_1.B1:List Nat:=[0,0,2,6,14,0,32,126,255,511,1023]
theorem gtake_1.tab1:rtab .any (opsOf Try.f27 1)=gtake_1.T1:=by kernel_rfl
theorem gtake_1.bits1:waitsOk gtake_1.T1.2 gtake_1.B1=true:=by kernel_rfl
def gtake_2.T2:Bool × List (List Nat × List Nat):=(true,[([],[]),([],[]),([0],[0]),([2],[2]),([3,1],[1,3]),([4],[4]),([],[]),([6],[6]),([7],[7]),([],[]),([9],[9]),([8,10],[8,10]),([5,11],[5,11]),([0],[0]),([13],[13]),([14,1,0,1,2,3,4,5,6,7,8,9,10,11,12],[1,14]),([15,12,0,1,2,3,4,5,6,7,8,9,10,11,12],[12,15])])
def gtake_2.B2:List Nat:=[0,0,1,5,15,31,0,64,192,0,512,1984,4095,1,8193,32767,65535]
theorem gtake_2.tab2:rtab .any (opsOf Try.f27 2)=gtake_2.T2:=by kernel_rfl
theorem gtake_2.bits2:waitsOk gtake_2.T2.2 gtake_2.B2=true:=by kernel_rfl
attribute [local go_sem] max2_int min2_int max_two min_two
set_option maxRecDepth 100000 in
set_option maxHeartbeats 4000000 in
theorem take0_calls (C:Nat) (f t m0 m1 x y:Int) (h0 h1:Bool) (A:Option Addr) (l c:Nat) (w:World) (hC:w.heap[C]?=some (.cells #[.int .i64 f,.int .i64 t,.int .i64 m0,.int .i64 m1,.bool h0,.bool h1] 46 (0,0))) (hB:-1152921504606846976≤t∧t≤1152921504606846976 ∧ -1152921504606846976≤m0∧m0≤1152921504606846976 ∧ -1152921504606846976≤m1∧m1≤1152921504606846976 ∧ -1152921504606846976≤x∧x≤1152921504606846976 ∧ -1152921504606846976≤y∧y≤1152921504606846976∧l≤1152921504606846976) :
  Calls Try.prog 27 #[.pointer (some ⟨C,0,none⟩),.int .i64 0,.agg #[.int .i64 x,.int .i64 y,.slice A l c]] w fun e w'=>e=.returned (.tuple #[])∧w'.heap[C]?=some (.cells #[.int .i64 f,.int .i64 (max t (x+y)),.int .i64 (m0+((l:Int) - y)),.int .i64 m1,.bool true,.bool h1] 46 (0,0))∧w.grownBy w' (some C):=by
 have hu46:=Try.underlying46
 have hu52:=Try.underlying52
 have hu34:=Try.underlying34
 have hu44:=Try.underlying44
 obtain ⟨T,hT⟩:∃ T,T=max t (x+y):=⟨_,rfl⟩
 obtain ⟨m0n,hn⟩:∃ n,n=(m0+((l:Int) - y)):=⟨_,rfl⟩
 rw [← hT,← hn]
 have kT:(if t<x+y then x+y else t)=T:=by rw [hT];omega
 have k1:IntKind.i64.wrap ((l:Int) - y)=(l:Int) - y:=IntWalk.i64_in _ (by omega)
 have k2:IntKind.i64.wrap (m0+((l:Int) - y))=m0n:=by rw [hn];exact IntWalk.i64_in _ (by omega)
 have H0:=Aside0.mk (show -4611686018427387904≤x∧x<4611686018427387904 ∧ -4611686018427387904≤y∧y<4611686018427387904 by omega)
 clear hT hn hB
 go_enter Try.func27,Try.ntmps27
 go_upto_region 1 with (fail)
 have HC1:=Aside0.mk (blk_alloc hC (.cells #[.int .i64 x,.int .i64 y,.slice A l c] 52 (0,0)))
 have HG1:=Aside0.mk (blk_new w (.cells #[.int .i64 x,.int .i64 y,.slice A l c] 52 (0,0)))
 have HW1:=Aside0.mk (World.grownBy_alloc w (.cells #[.int .i64 x,.int .i64 y,.slice A l c] 52 (0,0)) (some C))
 have HN:=Aside0.mk (Nat.ne_of_gt (blk_lt hC))
 clear hC
 generalize w.alloc (.cells #[.int .i64 x,.int .i64 y,.slice A l c] 52 (0,0))=W1 at HC1 HG1 HW1 ⊢
 generalize w.heap.size=g at HG1 HN ⊢
 have za0:W1.drew.cell? ⟨C,1,none⟩=some (.int .i64 t):=(blk_cell HC1.out 1).trans rfl
 have za1:W1.drew.cell? ⟨g,0,none⟩=some (.int .i64 x):=(blk_cell HG1.out 0).trans rfl
 have za2:W1.drew.cell? ⟨g,1,none⟩=some (.int .i64 y):=(blk_cell HG1.out 1).trans rfl
 have za3:W1.drew.cell? ⟨g,2,none⟩=some (.slice A l c):=(blk_cell HG1.out 2).trans rfl
 have HC2:=Aside0.mk (blk_drew HC1.out)
 have HG2:=Aside0.mk (blk_drew HG1.out)
 have HW2:=Aside0.mk (grown_trans HW1.out (grown_drew W1 (some C)))
 refine start_ (n:=11) (S:=fun w'=>w'.cell? ⟨C,1,none⟩=some (.int .i64 t)∧w'.cell? ⟨g,0,none⟩=some (.int .i64 x)∧w'.cell? ⟨g,1,none⟩=some (.int .i64 y)∧w'.cell? ⟨g,2,none⟩=some (.slice A l c)) (ds:=[10]) #[false,false,false,false,false,false,false,false,false,false,false] (by kernel_rfl) rfl rfl ⟨za0,za1,za2,za3⟩ (fun hHeld=>?_)
 refine with_tabW gtake_1.tab1 gtake_1.bits1 (fun HT_ HW_=>?_)
 generalize W1.drew=W2 at za0 za1 za2 za3 HC2 HG2 HW2 hHeld ⊢
 refine pure_ (i:=0) (N:=some 6) (v:=?_) (a':=?_) #[true,false,false,false,false,false,false,false,false,false,false] rfl rfl (any_of HT_.out (by kernel_rfl)) (fun _ _ _ h=>h) (Or.inl ⟨by rfl,?_⟩) ?_ ?_
 rotate_left
 ·intro w'
  go_simp
  with_reducible rfl
 rotate_left
 ·simp only [Act.put,List.setIfInBounds_toArray,List.set_cons_zero,List.set_cons_succ,i64_w,i32_w]
  rfl
 refine pure_ (i:=1) (N:=some 7) (v:=?_) (a':=?_) #[true,true,false,false,false,false,false,false,false,false,false] rfl rfl (any_of HT_.out (by kernel_rfl)) (fun _ _ _ h=>h) (Or.inl ⟨by rfl,?_⟩) ?_ ?_
 rotate_left
 ·intro w'
  go_simp
  with_reducible rfl
 rotate_left
 ·simp only [Act.put,List.setIfInBounds_toArray,List.set_cons_zero,List.set_cons_succ,i64_w,i32_w]
  rfl
 refine pure_ (i:=2) (N:=some 8) (v:=?_) (a':=?_) #[true,true,true,false,false,false,false,false,false,false,false] rfl rfl (any_of HT_.out (by kernel_rfl)) (fun _ _ _ h=>h) (Or.inl ⟨by rfl,?_⟩) ?_ ?_
 rotate_left
 ·intro w'
  go_simp
  with_reducible rfl
 rotate_left
 ·simp only [Act.put,List.setIfInBounds_toArray,List.set_cons_zero,List.set_cons_succ,i64_w,i32_w]
  rfl
 refine pure_ (i:=3) (N:=some 9) (v:=?_) (a':=?_) #[true,true,true,true,false,false,false,false,false,false,false] rfl rfl (any_of HT_.out (by kernel_rfl)) (fun _ _ _ h=>h) (Or.inl ⟨by rfl,?_⟩) ?_ ?_
 rotate_left
 ·intro w'
  go_simp
  with_reducible rfl
 rotate_left
 ·simp only [Act.put,List.setIfInBounds_toArray,List.set_cons_zero,List.set_cons_succ,i64_w,i32_w]
  rfl
 refine take_ (i:=4) (N:=some 10) (v:=?_) (a':=?_) #[true,true,true,true,true,false,false,false,false,false,false] rfl rfl (take_ofW HT_.out HW_.out (by kernel_rfl)) (fun _ _ _ h=>h) (Or.inl ⟨by rfl,?_⟩) hHeld ?_ ?_
 rotate_left
 ·rintro w' ⟨s0,s1,s2,s3⟩
  go_simp
  with_reducible rfl
 rotate_left
 ·simp only [Act.put,List.setIfInBounds_toArray,List.set_cons_zero,List.set_cons_succ,i64_w,i32_w]
  rfl
 refine take_ (i:=5) (N:=some 11) (v:=?_) (a':=?_) #[true,true,true,true,true,true,false,false,false,false,false] rfl rfl (take_ofW HT_.out HW_.out (by kernel_rfl)) (fun _ _ _ h=>h) (Or.inl ⟨by rfl,?_⟩) hHeld ?_ ?_
 rotate_left
 ·rintro w' ⟨s0,s1,s2,s3⟩
  go_simp
  with_reducible rfl
 rotate_left
 ·simp only [Act.put,List.setIfInBounds_toArray,List.set_cons_zero,List.set_cons_succ,i64_w,i32_w]
  rfl
 refine one_ (i:=6) (N:=some 12) #[true,true,true,true,true,true,true,false,false,false,false] rfl rfl (one_of HT_.out (by kernel_rfl)) (by decide) (fun K hK=>?_)
 refine goes_ Try.func36 (by kernel_rfl) rfl #[.agg #[.int .i64 x,.int .i64 y,.slice A l c]] (by rfl) rfl rfl (by simp only [List.map_toArray,List.map_cons,List.map_nil];rfl) ?_
 with_reducible refine (end_calls x y _ _ H0.out rfl).mono ?_
 rintro e w3 ⟨rfl,hb⟩
 refine ⟨_,rfl,?_⟩
 have zb0:=pw_cell_below hb za0
 have zb1:=pw_cell_below hb za1
 have zb2:=pw_cell_below hb za2
 have zb3:=pw_cell_below hb za3
 have HC3:=Aside0.mk (blk_below HC2.out hb)
 have HG3:=Aside0.mk (blk_below HG2.out hb)
 have HW3:=Aside0.mk (grown_trans HW2.out (grown_of_below hb (some C)))
 have fb:=blk_frozen HC3.out 1
 clear hb za0 za1 za2 za3
 refine hK.out _ _ ⟨zb0,zb1,zb2,zb3⟩ (fun hHeld=>?_)
 clear hK K
 refine norm_ (a':=?_) ?_ ?_
 rotate_left
 ·show Act.put _ (some 12) _=_
  simp only [Act.put,List.setIfInBounds_toArray,List.set_cons_zero,List.set_cons_succ,i64_w,i32_w]
  rfl
 refine pure_ (i:=7) (N:=some 13) (v:=?_) (a':=?_) #[true,true,true,true,true,true,true,true,false,false,false] rfl rfl (any_of HT_.out (by kernel_rfl)) (fun _ _ _ h=>h) (Or.inl ⟨by rfl,?_⟩) ?_ ?_
 rotate_left
 ·intro w'
  go_simp
  with_reducible rfl
 rotate_left
 ·simp only [Act.put,List.setIfInBounds_toArray,List.set_cons_zero,List.set_cons_succ,i64_w,i32_w]
  rfl
 refine pure_ (i:=8) (N:=some 14) (v:=?_) (a':=?_) #[true,true,true,true,true,true,true,true,true,false,false] rfl rfl (any_of HT_.out (by kernel_rfl)) (fun _ _ _ h=>h) (Or.inl ⟨by rfl,?_⟩) ?_ ?_
 rotate_left
 ·intro w'
  go_simp
  with_reducible rfl
 rotate_left
 ·simp only [Act.put,List.setIfInBounds_toArray,List.set_cons_zero,List.set_cons_succ,i64_w,i32_w]
  rfl
 refine pure_ (i:=9) (N:=some 15) (v:=?_) (a':=?_) #[true,true,true,true,true,true,true,true,true,true,false] rfl rfl (any_of HT_.out (by kernel_rfl)) (fun _ _ _ h=>h) (Or.inl ⟨by rfl,?_⟩) ?_ ?_
 rotate_left
 ·intro w'
  go_simp
  with_reducible rfl
 rotate_left
 ·simp only [Act.put,List.setIfInBounds_toArray,List.set_cons_zero,List.set_cons_succ,i64_w,i32_w]
  rfl
 refine last_ (i:=10) (N:=none) #[true,true,true,true,true,true,true,true,true,true,true] rfl rfl (one_of HT_.out (by kernel_rfl)) (by decide) (fun K hK=>?_)
 refine skip_ (w1:=?_) (by rfl) rfl ?_ ?_
 rotate_left
 ·go_simp
  rfl
 refine hK.out _ _ ?_
 clear hK K
 refine done_ (done_of HT_.out (by kernel_rfl)) ?_

 clear kT
 have HC4:=Aside0.mk (blk_put HC3.out 1 (.int .i64 T) (cs':=#[.int .i64 f,.int .i64 T,.int .i64 m0,.int .i64 m1,.bool h0,.bool h1]) rfl)
 have HG4:=Aside0.mk ((Below.heap_setCell w3 ⟨C,1,none⟩ (.int .i64 T) g HN.out).trans HG3.out)
 have HW4:=Aside0.mk (grown_trans HW3.out (grown_set w3 C 1 (.int .i64 T)))
 clear zb0 zb1 zb2 zb3 fb
 generalize w3.setCell ⟨C,1,none⟩ (.int .i64 T)=w4 at HC4 HG4 HW4 ⊢
 go_upto_region 2 with (fail)
 have zc0:w4.drew.cell? ⟨C,2,none⟩=some (.int .i64 m0):=(blk_cell HC4.out 2).trans rfl
 have zc1:w4.drew.cell? ⟨g,1,none⟩=some (.int .i64 y):=(blk_cell HG4.out 1).trans rfl
 have zc2:w4.drew.cell? ⟨g,2,none⟩=some (.slice A l c):=(blk_cell HG4.out 2).trans rfl
 have HC5:=Aside0.mk (blk_drew HC4.out)
 have HW5:=Aside0.mk (grown_trans HW4.out (grown_drew w4 (some C)))
 have fc:=blk_frozen HC5.out 2
 refine start_ (n:=17) (S:=fun w'=>w'.cell? ⟨C,2,none⟩=some (.int .i64 m0)∧w'.cell? ⟨g,1,none⟩=some (.int .i64 y)∧w'.cell? ⟨g,2,none⟩=some (.slice A l c)) (ds:=[16]) #[false,false,false,false,false,false,false,false,false,false,false,false,false,false,false,false,false] (by kernel_rfl) rfl rfl ⟨zc0,zc1,zc2⟩ (fun hHeld=>?_)
 refine with_tabW gtake_2.tab2 gtake_2.bits2 (fun HT_ HW_=>?_)
 generalize w4.drew=w5 at zc0 zc1 zc2 HC5 HW5 fc hHeld ⊢
 refine pure_ (i:=0) (N:=some 16) (v:=?_) (a':=?_) #[true,false,false,false,false,false,false,false,false,false,false,false,false,false,false,false,false] rfl rfl (any_of HT_.out (by kernel_rfl)) (fun _ _ _ h=>h) (Or.inl ⟨by rfl,?_⟩) ?_ ?_
 rotate_left
 ·intro w'
  go_simp
  with_reducible rfl
 rotate_left
 ·simp only [Act.put,List.setIfInBounds_toArray,List.set_cons_zero,List.set_cons_succ,i64_w,i32_w]
  rfl
 refine pure_ (i:=1) (N:=some 17) (v:=?_) (a':=?_) #[true,true,false,false,false,false,false,false,false,false,false,false,false,false,false,false,false] rfl rfl (any_of HT_.out (by kernel_rfl)) (fun _ _ _ h=>h) (Or.inl ⟨by rfl,?_⟩) ?_ ?_
 rotate_left
 ·intro w'
  go_simp
  with_reducible rfl
 rotate_left
 ·simp only [Act.put,List.setIfInBounds_toArray,List.set_cons_zero,List.set_cons_succ,i64_w,i32_w]
  rfl
 refine pure_ (i:=2) (N:=some 18) (v:=?_) (a':=?_) #[true,true,true,false,false,false,false,false,false,false,false,false,false,false,false,false,false] rfl rfl (any_of HT_.out (by kernel_rfl)) (fun _ _ _ h=>h) (Or.inl ⟨by rfl,?_⟩) ?_ ?_
 rotate_left
 ·intro w'
  go_simp
  with_reducible rfl
 rotate_left
 ·simp only [Act.put,List.setIfInBounds_toArray,List.set_cons_zero,List.set_cons_succ,i64_w,i32_w]
  rfl
 refine pure_ (i:=3) (N:=some 19) (v:=?_) (a':=?_) #[true,true,true,true,false,false,false,false,false,false,false,false,false,false,false,false,false] rfl rfl (any_of HT_.out (by kernel_rfl)) (fun _ _ _ h=>h) (Or.inl ⟨by rfl,?_⟩) ?_ ?_
 rotate_left
 ·intro w'
  go_simp
  with_reducible rfl
 rotate_left
 ·simp only [Act.put,List.setIfInBounds_toArray,List.set_cons_zero,List.set_cons_succ,i64_w,i32_w]
  rfl
 refine pure_ (i:=4) (N:=some 20) (v:=?_) (a':=?_) #[true,true,true,true,true,false,false,false,false,false,false,false,false,false,false,false,false] rfl rfl (any_of HT_.out (by kernel_rfl)) (fun _ _ _ h=>h) (Or.inl ⟨by rfl,?_⟩) ?_ ?_
 rotate_left
 ·intro w'
  go_simp
  with_reducible rfl
 rotate_left
 ·simp only [Act.put,List.setIfInBounds_toArray,List.set_cons_zero,List.set_cons_succ,i64_w,i32_w]
  rfl
 refine pure_ (i:=6) (N:=some 22) (v:=?_) (a':=?_) #[true,true,true,true,true,false,true,false,false,false,false,false,false,false,false,false,false] rfl rfl (any_of HT_.out (by kernel_rfl)) (fun _ _ _ h=>h) (Or.inl ⟨by rfl,?_⟩) ?_ ?_
 rotate_left
 ·intro w'
  go_simp
  with_reducible rfl
 rotate_left
 ·simp only [Act.put,List.setIfInBounds_toArray,List.set_cons_zero,List.set_cons_succ,i64_w,i32_w]
  rfl
 refine pure_ (i:=9) (N:=some 25) (v:=?_) (a':=?_) #[true,true,true,true,true,false,true,false,false,true,false,false,false,false,false,false,false] rfl rfl (any_of HT_.out (by kernel_rfl)) (fun _ _ _ h=>h) (Or.inl ⟨by rfl,?_⟩) ?_ ?_
 rotate_left
 ·intro w'
  go_simp
  with_reducible rfl
 rotate_left
 ·simp only [Act.put,List.setIfInBounds_toArray,List.set_cons_zero,List.set_cons_succ,i64_w,i32_w]
  rfl
 refine pure_ (i:=13) (N:=some 29) (v:=?_) (a':=?_) #[true,true,true,true,true,false,true,false,false,true,false,false,false,true,false,false,false] rfl rfl (any_of HT_.out (by kernel_rfl)) (fun _ _ _ h=>h) (Or.inl ⟨by rfl,?_⟩) ?_ ?_
 rotate_left
 ·intro w'
  go_simp
  with_reducible rfl
 rotate_left
 ·simp only [Act.put,List.setIfInBounds_toArray,List.set_cons_zero,List.set_cons_succ,i64_w,i32_w]
  rfl
 refine pure_ (i:=14) (N:=some 30) (v:=?_) (a':=?_) #[true,true,true,true,true,false,true,false,false,true,false,false,false,true,true,false,false] rfl rfl (any_of HT_.out (by kernel_rfl)) (fun _ _ _ h=>h) (Or.inl ⟨by rfl,?_⟩) ?_ ?_
 rotate_left
 ·intro w'
  go_simp
  with_reducible rfl
 rotate_left
 ·simp only [Act.put,List.setIfInBounds_toArray,List.set_cons_zero,List.set_cons_succ,i64_w,i32_w]
  rfl
 refine take_ (i:=5) (N:=some 21) (v:=?_) (a':=?_) #[true,true,true,true,true,true,true,false,false,true,false,false,false,true,true,false,false] rfl rfl (take_ofW HT_.out HW_.out (by kernel_rfl)) (fun _ _ _ h=>h) (Or.inl ⟨by rfl,?_⟩) hHeld ?_ ?_
 rotate_left
 ·rintro w' ⟨s0,s1,s2⟩
  go_simp
  with_reducible rfl
 rotate_left
 ·simp only [Act.put,List.setIfInBounds_toArray,List.set_cons_zero,List.set_cons_succ,i64_w,i32_w]
  rfl
 refine take_ (i:=7) (N:=some 23) (v:=?_) (a':=?_) #[true,true,true,true,true,true,true,true,false,true,false,false,false,true,true,false,false] rfl rfl (take_ofW HT_.out HW_.out (by kernel_rfl)) (fun _ _ _ h=>h) (Or.inl ⟨by rfl,?_⟩) hHeld ?_ ?_
 rotate_left
 ·rintro w' ⟨s0,s1,s2⟩
  go_simp
  with_reducible rfl
 rotate_left
 ·simp only [Act.put,List.setIfInBounds_toArray,List.set_cons_zero,List.set_cons_succ,i64_w,i32_w]
  rfl
 refine pure_ (i:=8) (N:=some 24) (v:=?_) (a':=?_) #[true,true,true,true,true,true,true,true,true,true,false,false,false,true,true,false,false] rfl rfl (any_of HT_.out (by kernel_rfl)) (fun _ _ _ h=>h) (Or.inl ⟨by rfl,?_⟩) ?_ ?_
 rotate_left
 ·intro w'
  go_simp
  with_reducible rfl
 rotate_left
 ·simp only [Act.put,List.setIfInBounds_toArray,List.set_cons_zero,List.set_cons_succ,i64_w,i32_w]
  rfl
 refine take_ (i:=10) (N:=some 26) (v:=?_) (a':=?_) #[true,true,true,true,true,true,true,true,true,true,true,false,false,true,true,false,false] rfl rfl (take_ofW HT_.out HW_.out (by kernel_rfl)) (fun _ _ _ h=>h) (Or.inl ⟨by rfl,?_⟩) hHeld ?_ ?_
 rotate_left
 ·rintro w' ⟨s0,s1,s2⟩
  go_simp
  with_reducible rfl
 rotate_left
 ·simp only [Act.put,List.setIfInBounds_toArray,List.set_cons_zero,List.set_cons_succ,i64_w,i32_w]
  rfl
 refine pure_ (i:=11) (N:=some 27) (v:=?_) (a':=?_) #[true,true,true,true,true,true,true,true,true,true,true,true,false,true,true,false,false] rfl rfl (any_of HT_.out (by kernel_rfl)) (fun _ _ _ h=>h) (Or.inl ⟨by rfl,?_⟩) ?_ ?_
 rotate_left
 ·intro w'
  go_simp
  with_reducible rfl
 rotate_left
 ·simp only [Act.put,List.setIfInBounds_toArray,List.set_cons_zero,List.set_cons_succ,i64_w,i32_w]
  rfl
 refine pure_ (i:=12) (N:=some 28) (v:=?_) (a':=?_) #[true,true,true,true,true,true,true,true,true,true,true,true,true,true,true,false,false] rfl rfl (any_of HT_.out (by kernel_rfl)) (fun _ _ _ h=>h) (Or.inl ⟨by rfl,?_⟩) ?_ ?_
 rotate_left
 ·intro w'
  go_simp
  with_reducible rfl
 rotate_left
 ·simp only [Act.put,List.setIfInBounds_toArray,List.set_cons_zero,List.set_cons_succ,i64_w,i32_w]
  rfl
 refine pure_ (i:=15) (N:=some 31) (v:=?_) (a':=?_) #[true,true,true,true,true,true,true,true,true,true,true,true,true,true,true,true,false] rfl rfl (any_of HT_.out (by kernel_rfl)) (fun _ _ _ h=>h) (Or.inl ⟨by rfl,?_⟩) ?_ ?_
 rotate_left
 ·intro w'
  go_simp
  with_reducible rfl
 rotate_left
 ·simp only [Act.put,List.setIfInBounds_toArray,List.set_cons_zero,List.set_cons_succ,i64_w,i32_w]
  rfl
 refine last_ (i:=16) (N:=none) #[true,true,true,true,true,true,true,true,true,true,true,true,true,true,true,true,true] rfl rfl (one_of HT_.out (by kernel_rfl)) (by decide) (fun K hK=>?_)
 refine skip_ (w1:=?_) (by rfl) rfl ?_ ?_
 rotate_left
 ·go_simp
  rfl
 refine hK.out _ _ ?_
 clear hK K
 refine done_ (done_of HT_.out (by kernel_rfl)) ?_

 have HC6:=Aside0.mk (blk_put HC5.out 2 (.int .i64 m0n) (cs':=#[.int .i64 f,.int .i64 T,.int .i64 m0n,.int .i64 m1,.bool h0,.bool h1]) rfl)
 have HW6:=Aside0.mk (grown_trans HW5.out (grown_set w5 C 2 (.int .i64 m0n)))
 clear zc0 zc1 zc2 fc
 generalize w5.setCell ⟨C,2,none⟩ (.int .i64 m0n)=w6 at HC6 HW6 ⊢
 have zd0:=(blk_cell HC6.out 4).trans rfl
 have fd:=blk_frozen HC6.out 4
 go_wp2
 go_end0
 exact ⟨rfl,blk_put HC6.out 4 _ rfl,grown_trans HW6.out (grown_set _ _ _ _)⟩
set_option maxRecDepth 100000 in
set_option maxHeartbeats 4000000 in
theorem take1_calls (C:Nat) (f t m0 m1 x y:Int) (h0 h1:Bool) (A:Option Addr) (l c:Nat) (w:World) (hC:w.heap[C]?=some (.cells #[.int .i64 f,.int .i64 t,.int .i64 m0,.int .i64 m1,.bool h0,.bool h1] 46 (0,0))) (hB:-1152921504606846976≤t∧t≤1152921504606846976 ∧ -1152921504606846976≤m0∧m0≤1152921504606846976 ∧ -1152921504606846976≤m1∧m1≤1152921504606846976 ∧ -1152921504606846976≤x∧x≤1152921504606846976 ∧ -1152921504606846976≤y∧y≤1152921504606846976∧l≤1152921504606846976) :
  Calls Try.prog 27 #[.pointer (some ⟨C,0,none⟩),.int .i64 1,.agg #[.int .i64 x,.int .i64 y,.slice A l c]] w fun e w'=>e=.returned (.tuple #[])∧w'.heap[C]?=some (.cells #[.int .i64 f,.int .i64 (max t (x+y)),.int .i64 m0,.int .i64 (m1+((l:Int) - y)),.bool h0,.bool true] 46 (0,0))∧w.grownBy w' (some C):=by
 have hu46:=Try.underlying46
 have hu52:=Try.underlying52
 have hu34:=Try.underlying34
 have hu44:=Try.underlying44
 obtain ⟨T,hT⟩:∃ T,T=max t (x+y):=⟨_,rfl⟩
 obtain ⟨m1n,hn⟩:∃ n,n=(m1+((l:Int) - y)):=⟨_,rfl⟩
 rw [← hT,← hn]
 have kT:(if t<x+y then x+y else t)=T:=by rw [hT];omega
 have k1:IntKind.i64.wrap ((l:Int) - y)=(l:Int) - y:=IntWalk.i64_in _ (by omega)
 have k2:IntKind.i64.wrap (m1+((l:Int) - y))=m1n:=by rw [hn];exact IntWalk.i64_in _ (by omega)
 have H0:=Aside0.mk (show -4611686018427387904≤x∧x<4611686018427387904 ∧ -4611686018427387904≤y∧y<4611686018427387904 by omega)
 clear hT hn hB
 go_enter Try.func27,Try.ntmps27
 go_upto_region 1 with (fail)
 have HC1:=Aside0.mk (blk_alloc hC (.cells #[.int .i64 x,.int .i64 y,.slice A l c] 52 (0,0)))
 have HG1:=Aside0.mk (blk_new w (.cells #[.int .i64 x,.int .i64 y,.slice A l c] 52 (0,0)))
 have HW1:=Aside0.mk (World.grownBy_alloc w (.cells #[.int .i64 x,.int .i64 y,.slice A l c] 52 (0,0)) (some C))
 have HN:=Aside0.mk (Nat.ne_of_gt (blk_lt hC))
 clear hC
 generalize w.alloc (.cells #[.int .i64 x,.int .i64 y,.slice A l c] 52 (0,0))=W1 at HC1 HG1 HW1 ⊢
 generalize w.heap.size=g at HG1 HN ⊢
 have za0:W1.drew.cell? ⟨C,1,none⟩=some (.int .i64 t):=(blk_cell HC1.out 1).trans rfl
 have za1:W1.drew.cell? ⟨g,0,none⟩=some (.int .i64 x):=(blk_cell HG1.out 0).trans rfl
 have za2:W1.drew.cell? ⟨g,1,none⟩=some (.int .i64 y):=(blk_cell HG1.out 1).trans rfl
 have za3:W1.drew.cell? ⟨g,2,none⟩=some (.slice A l c):=(blk_cell HG1.out 2).trans rfl
 have HC2:=Aside0.mk (blk_drew HC1.out)
 have HG2:=Aside0.mk (blk_drew HG1.out)
 have HW2:=Aside0.mk (grown_trans HW1.out (grown_drew W1 (some C)))
 refine start_ (n:=11) (S:=fun w'=>w'.cell? ⟨C,1,none⟩=some (.int .i64 t)∧w'.cell? ⟨g,0,none⟩=some (.int .i64 x)∧w'.cell? ⟨g,1,none⟩=some (.int .i64 y)∧w'.cell? ⟨g,2,none⟩=some (.slice A l c)) (ds:=[10]) #[false,false,false,false,false,false,false,false,false,false,false] (by kernel_rfl) rfl rfl ⟨za0,za1,za2,za3⟩ (fun hHeld=>?_)
 refine with_tabW gtake_1.tab1 gtake_1.bits1 (fun HT_ HW_=>?_)
 generalize W1.drew=W2 at za0 za1 za2 za3 HC2 HG2 HW2 hHeld ⊢
 refine pure_ (i:=0) (N:=some 6) (v:=?_) (a':=?_) #[true,false,false,false,false,false,false,false,false,false,false] rfl rfl (any_of HT_.out (by kernel_rfl)) (fun _ _ _ h=>h) (Or.inl ⟨by rfl,?_⟩) ?_ ?_
 rotate_left
 ·intro w'
  go_simp
  with_reducible rfl
 rotate_left
 ·simp only [Act.put,List.setIfInBounds_toArray,List.set_cons_zero,List.set_cons_succ,i64_w,i32_w]
  rfl
 refine pure_ (i:=1) (N:=some 7) (v:=?_) (a':=?_) #[true,true,false,false,false,false,false,false,false,false,false] rfl rfl (any_of HT_.out (by kernel_rfl)) (fun _ _ _ h=>h) (Or.inl ⟨by rfl,?_⟩) ?_ ?_
 rotate_left
 ·intro w'
  go_simp
  with_reducible rfl
 rotate_left
 ·simp only [Act.put,List.setIfInBounds_toArray,List.set_cons_zero,List.set_cons_succ,i64_w,i32_w]
  rfl
 refine pure_ (i:=2) (N:=some 8) (v:=?_) (a':=?_) #[true,true,true,false,false,false,false,false,false,false,false] rfl rfl (any_of HT_.out (by kernel_rfl)) (fun _ _ _ h=>h) (Or.inl ⟨by rfl,?_⟩) ?_ ?_
 rotate_left
 ·intro w'
  go_simp
  with_reducible rfl
 rotate_left
 ·simp only [Act.put,List.setIfInBounds_toArray,List.set_cons_zero,List.set_cons_succ,i64_w,i32_w]
  rfl
 refine pure_ (i:=3) (N:=some 9) (v:=?_) (a':=?_) #[true,true,true,true,false,false,false,false,false,false,false] rfl rfl (any_of HT_.out (by kernel_rfl)) (fun _ _ _ h=>h) (Or.inl ⟨by rfl,?_⟩) ?_ ?_
 rotate_left
 ·intro w'
  go_simp
  with_reducible rfl
 rotate_left
 ·simp only [Act.put,List.setIfInBounds_toArray,List.set_cons_zero,List.set_cons_succ,i64_w,i32_w]
  rfl
 refine take_ (i:=4) (N:=some 10) (v:=?_) (a':=?_) #[true,true,true,true,true,false,false,false,false,false,false] rfl rfl (take_ofW HT_.out HW_.out (by kernel_rfl)) (fun _ _ _ h=>h) (Or.inl ⟨by rfl,?_⟩) hHeld ?_ ?_
 rotate_left
 ·rintro w' ⟨s0,s1,s2,s3⟩
  go_simp
  with_reducible rfl
 rotate_left
 ·simp only [Act.put,List.setIfInBounds_toArray,List.set_cons_zero,List.set_cons_succ,i64_w,i32_w]
  rfl
 refine take_ (i:=5) (N:=some 11) (v:=?_) (a':=?_) #[true,true,true,true,true,true,false,false,false,false,false] rfl rfl (take_ofW HT_.out HW_.out (by kernel_rfl)) (fun _ _ _ h=>h) (Or.inl ⟨by rfl,?_⟩) hHeld ?_ ?_
 rotate_left
 ·rintro w' ⟨s0,s1,s2,s3⟩
  go_simp
  with_reducible rfl
 rotate_left
 ·simp only [Act.put,List.setIfInBounds_toArray,List.set_cons_zero,List.set_cons_succ,i64_w,i32_w]
  rfl
 refine one_ (i:=6) (N:=some 12) #[true,true,true,true,true,true,true,false,false,false,false] rfl rfl (one_of HT_.out (by kernel_rfl)) (by decide) (fun K hK=>?_)
 refine goes_ Try.func36 (by kernel_rfl) rfl #[.agg #[.int .i64 x,.int .i64 y,.slice A l c]] (by rfl) rfl rfl (by simp only [List.map_toArray,List.map_cons,List.map_nil];rfl) ?_
 with_reducible refine (end_calls x y _ _ H0.out rfl).mono ?_
 rintro e w3 ⟨rfl,hb⟩
 refine ⟨_,rfl,?_⟩
 have zb0:=pw_cell_below hb za0
 have zb1:=pw_cell_below hb za1
 have zb2:=pw_cell_below hb za2
 have zb3:=pw_cell_below hb za3
 have HC3:=Aside0.mk (blk_below HC2.out hb)
 have HG3:=Aside0.mk (blk_below HG2.out hb)
 have HW3:=Aside0.mk (grown_trans HW2.out (grown_of_below hb (some C)))
 have fb:=blk_frozen HC3.out 1
 clear hb za0 za1 za2 za3
 refine hK.out _ _ ⟨zb0,zb1,zb2,zb3⟩ (fun hHeld=>?_)
 clear hK K
 refine norm_ (a':=?_) ?_ ?_
 rotate_left
 ·show Act.put _ (some 12) _=_
  simp only [Act.put,List.setIfInBounds_toArray,List.set_cons_zero,List.set_cons_succ,i64_w,i32_w]
  rfl
 refine pure_ (i:=7) (N:=some 13) (v:=?_) (a':=?_) #[true,true,true,true,true,true,true,true,false,false,false] rfl rfl (any_of HT_.out (by kernel_rfl)) (fun _ _ _ h=>h) (Or.inl ⟨by rfl,?_⟩) ?_ ?_
 rotate_left
 ·intro w'
  go_simp
  with_reducible rfl
 rotate_left
 ·simp only [Act.put,List.setIfInBounds_toArray,List.set_cons_zero,List.set_cons_succ,i64_w,i32_w]
  rfl
 refine pure_ (i:=8) (N:=some 14) (v:=?_) (a':=?_) #[true,true,true,true,true,true,true,true,true,false,false] rfl rfl (any_of HT_.out (by kernel_rfl)) (fun _ _ _ h=>h) (Or.inl ⟨by rfl,?_⟩) ?_ ?_
 rotate_left
 ·intro w'
  go_simp
  with_reducible rfl
 rotate_left
 ·simp only [Act.put,List.setIfInBounds_toArray,List.set_cons_zero,List.set_cons_succ,i64_w,i32_w]
  rfl
 refine pure_ (i:=9) (N:=some 15) (v:=?_) (a':=?_) #[true,true,true,true,true,true,true,true,true,true,false] rfl rfl (any_of HT_.out (by kernel_rfl)) (fun _ _ _ h=>h) (Or.inl ⟨by rfl,?_⟩) ?_ ?_
 rotate_left
 ·intro w'
  go_simp
  with_reducible rfl
 rotate_left
 ·simp only [Act.put,List.setIfInBounds_toArray,List.set_cons_zero,List.set_cons_succ,i64_w,i32_w]
  rfl
 refine last_ (i:=10) (N:=none) #[true,true,true,true,true,true,true,true,true,true,true] rfl rfl (one_of HT_.out (by kernel_rfl)) (by decide) (fun K hK=>?_)
 refine skip_ (w1:=?_) (by rfl) rfl ?_ ?_
 rotate_left
 ·go_simp
  rfl
 refine hK.out _ _ ?_
 clear hK K
 refine done_ (done_of HT_.out (by kernel_rfl)) ?_

 clear kT
 have HC4:=Aside0.mk (blk_put HC3.out 1 (.int .i64 T) (cs':=#[.int .i64 f,.int .i64 T,.int .i64 m0,.int .i64 m1,.bool h0,.bool h1]) rfl)
 have HG4:=Aside0.mk ((Below.heap_setCell w3 ⟨C,1,none⟩ (.int .i64 T) g HN.out).trans HG3.out)
 have HW4:=Aside0.mk (grown_trans HW3.out (grown_set w3 C 1 (.int .i64 T)))
 clear zb0 zb1 zb2 zb3 fb
 generalize w3.setCell ⟨C,1,none⟩ (.int .i64 T)=w4 at HC4 HG4 HW4 ⊢
 go_upto_region 2 with (fail)
 have zc0:w4.drew.cell? ⟨C,3,none⟩=some (.int .i64 m1):=(blk_cell HC4.out 3).trans rfl
 have zc1:w4.drew.cell? ⟨g,1,none⟩=some (.int .i64 y):=(blk_cell HG4.out 1).trans rfl
 have zc2:w4.drew.cell? ⟨g,2,none⟩=some (.slice A l c):=(blk_cell HG4.out 2).trans rfl
 have HC5:=Aside0.mk (blk_drew HC4.out)
 have HW5:=Aside0.mk (grown_trans HW4.out (grown_drew w4 (some C)))
 have fc:=blk_frozen HC5.out 3
 refine start_ (n:=17) (S:=fun w'=>w'.cell? ⟨C,3,none⟩=some (.int .i64 m1)∧w'.cell? ⟨g,1,none⟩=some (.int .i64 y)∧w'.cell? ⟨g,2,none⟩=some (.slice A l c)) (ds:=[16]) #[false,false,false,false,false,false,false,false,false,false,false,false,false,false,false,false,false] (by kernel_rfl) rfl rfl ⟨zc0,zc1,zc2⟩ (fun hHeld=>?_)
 refine with_tabW gtake_2.tab2 gtake_2.bits2 (fun HT_ HW_=>?_)
 generalize w4.drew=w5 at zc0 zc1 zc2 HC5 HW5 fc hHeld ⊢
 refine pure_ (i:=0) (N:=some 16) (v:=?_) (a':=?_) #[true,false,false,false,false,false,false,false,false,false,false,false,false,false,false,false,false] rfl rfl (any_of HT_.out (by kernel_rfl)) (fun _ _ _ h=>h) (Or.inl ⟨by rfl,?_⟩) ?_ ?_
 rotate_left
 ·intro w'
  go_simp
  with_reducible rfl
 rotate_left
 ·simp only [Act.put,List.setIfInBounds_toArray,List.set_cons_zero,List.set_cons_succ,i64_w,i32_w]
  rfl
 refine pure_ (i:=1) (N:=some 17) (v:=?_) (a':=?_) #[true,true,false,false,false,false,false,false,false,false,false,false,false,false,false,false,false] rfl rfl (any_of HT_.out (by kernel_rfl)) (fun _ _ _ h=>h) (Or.inl ⟨by rfl,?_⟩) ?_ ?_
 rotate_left
 ·intro w'
  go_simp
  with_reducible rfl
 rotate_left
 ·simp only [Act.put,List.setIfInBounds_toArray,List.set_cons_zero,List.set_cons_succ,i64_w,i32_w]
  rfl
 refine pure_ (i:=2) (N:=some 18) (v:=?_) (a':=?_) #[true,true,true,false,false,false,false,false,false,false,false,false,false,false,false,false,false] rfl rfl (any_of HT_.out (by kernel_rfl)) (fun _ _ _ h=>h) (Or.inl ⟨by rfl,?_⟩) ?_ ?_
 rotate_left
 ·intro w'
  go_simp
  with_reducible rfl
 rotate_left
 ·simp only [Act.put,List.setIfInBounds_toArray,List.set_cons_zero,List.set_cons_succ,i64_w,i32_w]
  rfl
 refine pure_ (i:=3) (N:=some 19) (v:=?_) (a':=?_) #[true,true,true,true,false,false,false,false,false,false,false,false,false,false,false,false,false] rfl rfl (any_of HT_.out (by kernel_rfl)) (fun _ _ _ h=>h) (Or.inl ⟨by rfl,?_⟩) ?_ ?_
 rotate_left
 ·intro w'
  go_simp
  with_reducible rfl
 rotate_left
 ·simp only [Act.put,List.setIfInBounds_toArray,List.set_cons_zero,List.set_cons_succ,i64_w,i32_w]
  rfl
 refine pure_ (i:=4) (N:=some 20) (v:=?_) (a':=?_) #[true,true,true,true,true,false,false,false,false,false,false,false,false,false,false,false,false] rfl rfl (any_of HT_.out (by kernel_rfl)) (fun _ _ _ h=>h) (Or.inl ⟨by rfl,?_⟩) ?_ ?_
 rotate_left
 ·intro w'
  go_simp
  with_reducible rfl
 rotate_left
 ·simp only [Act.put,List.setIfInBounds_toArray,List.set_cons_zero,List.set_cons_succ,i64_w,i32_w]
  rfl
 refine pure_ (i:=6) (N:=some 22) (v:=?_) (a':=?_) #[true,true,true,true,true,false,true,false,false,false,false,false,false,false,false,false,false] rfl rfl (any_of HT_.out (by kernel_rfl)) (fun _ _ _ h=>h) (Or.inl ⟨by rfl,?_⟩) ?_ ?_
 rotate_left
 ·intro w'
  go_simp
  with_reducible rfl
 rotate_left
 ·simp only [Act.put,List.setIfInBounds_toArray,List.set_cons_zero,List.set_cons_succ,i64_w,i32_w]
  rfl
 refine pure_ (i:=9) (N:=some 25) (v:=?_) (a':=?_) #[true,true,true,true,true,false,true,false,false,true,false,false,false,false,false,false,false] rfl rfl (any_of HT_.out (by kernel_rfl)) (fun _ _ _ h=>h) (Or.inl ⟨by rfl,?_⟩) ?_ ?_
 rotate_left
 ·intro w'
  go_simp
  with_reducible rfl
 rotate_left
 ·simp only [Act.put,List.setIfInBounds_toArray,List.set_cons_zero,List.set_cons_succ,i64_w,i32_w]
  rfl
 refine pure_ (i:=13) (N:=some 29) (v:=?_) (a':=?_) #[true,true,true,true,true,false,true,false,false,true,false,false,false,true,false,false,false] rfl rfl (any_of HT_.out (by kernel_rfl)) (fun _ _ _ h=>h) (Or.inl ⟨by rfl,?_⟩) ?_ ?_
 rotate_left
 ·intro w'
  go_simp
  with_reducible rfl
 rotate_left
 ·simp only [Act.put,List.setIfInBounds_toArray,List.set_cons_zero,List.set_cons_succ,i64_w,i32_w]
  rfl
 refine pure_ (i:=14) (N:=some 30) (v:=?_) (a':=?_) #[true,true,true,true,true,false,true,false,false,true,false,false,false,true,true,false,false] rfl rfl (any_of HT_.out (by kernel_rfl)) (fun _ _ _ h=>h) (Or.inl ⟨by rfl,?_⟩) ?_ ?_
 rotate_left
 ·intro w'
  go_simp
  with_reducible rfl
 rotate_left
 ·simp only [Act.put,List.setIfInBounds_toArray,List.set_cons_zero,List.set_cons_succ,i64_w,i32_w]
  rfl
 refine take_ (i:=5) (N:=some 21) (v:=?_) (a':=?_) #[true,true,true,true,true,true,true,false,false,true,false,false,false,true,true,false,false] rfl rfl (take_ofW HT_.out HW_.out (by kernel_rfl)) (fun _ _ _ h=>h) (Or.inl ⟨by rfl,?_⟩) hHeld ?_ ?_
 rotate_left
 ·rintro w' ⟨s0,s1,s2⟩
  go_simp
  with_reducible rfl
 rotate_left
 ·simp only [Act.put,List.setIfInBounds_toArray,List.set_cons_zero,List.set_cons_succ,i64_w,i32_w]
  rfl
 refine take_ (i:=7) (N:=some 23) (v:=?_) (a':=?_) #[true,true,true,true,true,true,true,true,false,true,false,false,false,true,true,false,false] rfl rfl (take_ofW HT_.out HW_.out (by kernel_rfl)) (fun _ _ _ h=>h) (Or.inl ⟨by rfl,?_⟩) hHeld ?_ ?_
 rotate_left
 ·rintro w' ⟨s0,s1,s2⟩
  go_simp
  with_reducible rfl
 rotate_left
 ·simp only [Act.put,List.setIfInBounds_toArray,List.set_cons_zero,List.set_cons_succ,i64_w,i32_w]
  rfl
 refine pure_ (i:=8) (N:=some 24) (v:=?_) (a':=?_) #[true,true,true,true,true,true,true,true,true,true,false,false,false,true,true,false,false] rfl rfl (any_of HT_.out (by kernel_rfl)) (fun _ _ _ h=>h) (Or.inl ⟨by rfl,?_⟩) ?_ ?_
 rotate_left
 ·intro w'
  go_simp
  with_reducible rfl
 rotate_left
 ·simp only [Act.put,List.setIfInBounds_toArray,List.set_cons_zero,List.set_cons_succ,i64_w,i32_w]
  rfl
 refine take_ (i:=10) (N:=some 26) (v:=?_) (a':=?_) #[true,true,true,true,true,true,true,true,true,true,true,false,false,true,true,false,false] rfl rfl (take_ofW HT_.out HW_.out (by kernel_rfl)) (fun _ _ _ h=>h) (Or.inl ⟨by rfl,?_⟩) hHeld ?_ ?_
 rotate_left
 ·rintro w' ⟨s0,s1,s2⟩
  go_simp
  with_reducible rfl
 rotate_left
 ·simp only [Act.put,List.setIfInBounds_toArray,List.set_cons_zero,List.set_cons_succ,i64_w,i32_w]
  rfl
 refine pure_ (i:=11) (N:=some 27) (v:=?_) (a':=?_) #[true,true,true,true,true,true,true,true,true,true,true,true,false,true,true,false,false] rfl rfl (any_of HT_.out (by kernel_rfl)) (fun _ _ _ h=>h) (Or.inl ⟨by rfl,?_⟩) ?_ ?_
 rotate_left
 ·intro w'
  go_simp
  with_reducible rfl
 rotate_left
 ·simp only [Act.put,List.setIfInBounds_toArray,List.set_cons_zero,List.set_cons_succ,i64_w,i32_w]
  rfl
 refine pure_ (i:=12) (N:=some 28) (v:=?_) (a':=?_) #[true,true,true,true,true,true,true,true,true,true,true,true,true,true,true,false,false] rfl rfl (any_of HT_.out (by kernel_rfl)) (fun _ _ _ h=>h) (Or.inl ⟨by rfl,?_⟩) ?_ ?_
 rotate_left
 ·intro w'
  go_simp
  with_reducible rfl
 rotate_left
 ·simp only [Act.put,List.setIfInBounds_toArray,List.set_cons_zero,List.set_cons_succ,i64_w,i32_w]
  rfl
 refine pure_ (i:=15) (N:=some 31) (v:=?_) (a':=?_) #[true,true,true,true,true,true,true,true,true,true,true,true,true,true,true,true,false] rfl rfl (any_of HT_.out (by kernel_rfl)) (fun _ _ _ h=>h) (Or.inl ⟨by rfl,?_⟩) ?_ ?_
 rotate_left
 ·intro w'
  go_simp
  with_reducible rfl
 rotate_left
 ·simp only [Act.put,List.setIfInBounds_toArray,List.set_cons_zero,List.set_cons_succ,i64_w,i32_w]
  rfl
 refine last_ (i:=16) (N:=none) #[true,true,true,true,true,true,true,true,true,true,true,true,true,true,true,true,true] rfl rfl (one_of HT_.out (by kernel_rfl)) (by decide) (fun K hK=>?_)
 refine skip_ (w1:=?_) (by rfl) rfl ?_ ?_
 rotate_left
 ·go_simp
  rfl
 refine hK.out _ _ ?_
 clear hK K
 refine done_ (done_of HT_.out (by kernel_rfl)) ?_

 have HC6:=Aside0.mk (blk_put HC5.out 3 (.int .i64 m1n) (cs':=#[.int .i64 f,.int .i64 T,.int .i64 m0,.int .i64 m1n,.bool h0,.bool h1]) rfl)
 have HW6:=Aside0.mk (grown_trans HW5.out (grown_set w5 C 3 (.int .i64 m1n)))
 clear zc0 zc1 zc2 fc
 generalize w5.setCell ⟨C,3,none⟩ (.int .i64 m1n)=w6 at HC6 HW6 ⊢
 have zd0:=(blk_cell HC6.out 5).trans rfl
 have fd:=blk_frozen HC6.out 5
 go_wp2
 go_end0
 exact ⟨rfl,blk_put HC6.out 5 _ rfl,grown_trans HW6.out (grown_set _ _ _ _)⟩
end Go.Proofs.Ytnmphfelebkaiaa.Pr
-- shrunk
/-
The iterator of align's clusters: it makes a round for each cluster of two lists of edits.
-/
namespace Go.Proofs.Ytnmphfelebkaiaa.Pr
open Go.RowKit Go.Proofs.YtnmphfelebkaiaaW.PrintWords Go.Proofs.YtnmphfelebkaiaaW.PrintLast Go.Proofs.YtnmphfelebkaiaaW.PrintMore
attribute [local go_sem] Oper.semAt_some
theorem wpIn_scope {n:Nat} {P:Program} {c:Code} {Q:Exit→Act→World→Prop} {a:Act} {w:World} (h:c.wpIn Fence.wide n P (Exit.noGoto Q) a w):(Code.scope c).wpIn Fence.wide n P Q a w:=wpIn_wide.2 (wp_scope_straight (wpIn_wide.1 h))
theorem wpIn_label {n l:Nat} {P:Program} {Q:Exit→Act→World→Prop} {a:Act} {w:World} (h:Q .normal a w):(Code.label l).wpIn Fence.wide n P Q a w:=wpIn_wide.2 (wp_label h)
def Cl.cells (c:Cl):Array Value:=#[.int .i64 c.f,.int .i64 c.t,.int .i64 c.m0,.int .i64 c.m1,.bool c.h0,.bool c.h1]
def Cl.enc (c:Cl):Array Value:=#[.agg #[.int .i64 c.f,.int .i64 c.t,.int .i64 c.m0,.int .i64 c.m1,.bool c.h0,.bool c.h1]]
def EdOk (e:Ed):Prop:=0≤e.f0∧0≤e.f1∧e.f0+e.f1≤1048576∧e.f2.length≤1048576
structure SideOf (A:Option Addr) (l:List Ed) (A':Option Addr) (c':Nat) (l':List Ed):Prop where
 le:l'.length≤c'
 ok:∀ e ∈ l',EdOk e
 reads:∀ W,Kd.C k52 W A l.length l→Kd.C k52 W A' l'.length l'
theorem SideOf.drop {A:Option Addr} {l:List Ed} {A':Option Addr} {c':Nat} {l':List Ed} (h:SideOf A l A' c' l') (h0:0<l'.length) :
  ∃ A'':Option Addr,(∀ W:World,(Instr.slice 41 (.slice A' l'.length c') (some (.int .i64 1)) none none).run Try.prog W=.ok (.slice A'' (l'.drop 1).length (c' - 1)) W)∧SideOf A l A'' (c' - 1) (l'.drop 1):=by
 obtain ⟨i0,hi0,hz⟩:=Option.map_eq_some_iff.1 ginfoEd
 simp only [Prod.mk.injEq] at hz
 have hle:=h.le
 refine ⟨_,fun W=>?_,⟨by rw [List.length_drop];omega,fun e he=>h.ok e (List.mem_of_mem_drop he),fun W hW=>Kd.C_drop (c:=c') (h.reads W hW) (by omega) h.le⟩⟩
 have h2:=cut_from (P:=Try.prog) 41 52 .i64 Try.underlying41 hi0 3 hz.2.1 A' l'.length c' 1 (by omega) (by omega) W
 rw [List.length_drop]
 exact h2
theorem at_hd {w:World} {A:Option Addr} {l:List Ed} (h:Kd.C k52 w A l.length l) (h0:0<l.length) :
  ∃ ad A2 c2,A=some ad∧w.cell? ad=some (.int .i64 (hdE l).f0)∧w.cell? ⟨ad.block,ad.off+1,none⟩=some (.int .i64 (hdE l).f1)∧w.cell? ⟨ad.block,ad.off+2,none⟩=some (.slice A2 (hdE l).f2.length c2):=by
 obtain ⟨ad,A2,c2,e,h1,h2,h3,_⟩:=at_ed h 0 h0
 have hh:hdE l=l[0]:=by rw [hdE,List.getD_eq_getElem?_getD,List.getElem?_eq_getElem h0,Option.getD_some]
 rw [hh]
 have ha:ad.add (0 * 3)=ad:=by simp [Addr.add]
 rw [ha] at h1 h2 h3
 exact ⟨ad,A2,c2,e,h1,h2,h3⟩
theorem hd_ok {l:List Ed} (h:∀ e ∈ l,EdOk e) (h0:0<l.length):EdOk (hdE l):=by
 have hh:hdE l=l[0]:=by rw [hdE,List.getD_eq_getElem?_getD,List.getElem?_eq_getElem h0,Option.getD_some]
 rw [hh]
 exact h _ (List.getElem_mem h0)
def leftS (B:Nat) (w:World):Nat:=match w.heap[B]? with
 | some (Obj.cells cs _ _)=>(match cs[0]?,cs[1]? with|some (Value.slice _ n _),some (Value.slice _ m _)=>n+m|_,_=>0)
 | _=>0
theorem leftS_eq {B:Nat} {w:World} {A0 A1:Option Addr} {n0 c0 n1 c1:Nat} (h:w.heap[B]?=some (.cells #[.slice A0 n0 c0,.slice A1 n1 c1] 43 (0,0))):leftS B w=n0+n1:=by
 unfold leftS;rw [h];rfl
theorem ix0 (a b:Option Addr) (n c m d:Nat) (W:World):(Instr.index 43 (.agg #[.slice a n c,.slice b m d]) (.int .i64 0)).run Try.prog W=.ok (.slice a n c) W:=by kernel_rfl
theorem ix1 (a b:Option Addr) (n c m d:Nat) (W:World):(Instr.index 43 (.agg #[.slice a n c,.slice b m d]) (.int .i64 1)).run Try.prog W=.ok (.slice b m d) W:=by kernel_rfl
structure RdS (B:Nat) (A0 A1:Option Addr) (l0 l1:List Ed) (J:List Cl→World→Prop) (pre:List Cl) (A0' A1':Option Addr) (c0' c1':Nat) (l0' l1':List Ed) (w:World):Prop where
 box:w.heap[B]?=some (.cells #[.slice A0' l0'.length c0',.slice A1' l1'.length c1'] 43 (0,0))
 s0:SideOf A0 l0 A0' c0' l0'
 s1:SideOf A1 l1 A1' c1' l1'
 j:J pre w
theorem RdS.grow {B:Nat} {A0 A1:Option Addr} {l0 l1:List Ed} {J:List Cl→World→Prop} {pre:List Cl} {A0' A1':Option Addr} {c0' c1':Nat} {l0' l1':List Ed} {w w':World} (hJ:FreeC B J) (h:RdS B A0 A1 l0 l1 J pre A0' A1' c0' c1' l0' l1' w) {row:Option Nat} (hg:w.grownBy w' row)
  (hr:∀ r,row=some r→B≤r∧∃ cs,w.heap[r]?=some (.cells cs 46 (0,0))):RdS B A0 A1 l0 l1 J pre A0' A1' c0' c1' l0' l1' w':=by
 refine ⟨(hg.block B (blk_lt h.box) (fun e=>?_)).trans h.box,h.s0,h.s1,hJ _ _ _ _ h.j hg (fun r e=>by obtain ⟨hb,cs,hc⟩:=hr r e;exact ⟨hb,cs,46,hc,.inr rfl⟩)⟩
 obtain ⟨_,cs,hc⟩:=hr B e.symm
 rw [h.box] at hc
 injection hc with hc
 injection hc with _ hc
 exact absurd hc (by decide)
theorem grown_drewN (W:World) (k:Nat) (row:Option Nat):W.grownBy (W.drewN k) row:=⟨rfl,rfl,rfl,Nat.le_refl _,fun _ _ _=>rfl⟩
theorem RdS.drewN {B:Nat} {A0 A1:Option Addr} {l0 l1:List Ed} {J:List Cl→World→Prop} {pre:List Cl} {A0' A1':Option Addr} {c0' c1':Nat} {l0' l1':List Ed} {w:World} (hJ:FreeC B J) (h:RdS B A0 A1 l0 l1 J pre A0' A1' c0' c1' l0' l1' w) (k:Nat):RdS B A0 A1 l0 l1 J pre A0' A1' c0' c1' l0' l1' (w.drewN k) :=
 h.grow hJ (grown_drewN w k none) (fun r e=>by cases e)
theorem leftS_drewN (B:Nat) (w:World) (k:Nat):leftS B (w.drewN k)=leftS B w:=rfl
structure CB (N:Nat) (c:Cl) (p0 p1:List Ed):Prop where
 le:p0.length+p1.length≤N
 t0:0≤c.t
 t1:c.t≤1048576
 a0:-(1048576 * ((N:Int) - p0.length - p1.length))≤c.m0
 a1:c.m0≤1048576 * ((N:Int) - p0.length - p1.length)
 b0:-(1048576 * ((N:Int) - p0.length - p1.length))≤c.m1
 b1:c.m1≤1048576 * ((N:Int) - p0.length - p1.length)
theorem CB.take0 {N:Nat} {c:Cl} {p0 p1:List Ed} (h:CB N c p0 p1) (h0:0<p0.length) (he:EdOk (hdE p0)):CB N (take0 c (hdE p0)) (p0.drop 1) p1:=by
 obtain ⟨h1,h2,h3,h4,h5,h6,h7⟩:=h
 obtain ⟨e1,e2,e3,e4⟩:=he
 have hd:(p0.drop 1).length=p0.length - 1:=List.length_drop
 have hc:(((p0.drop 1).length:Nat):Int)=(p0.length:Int) - 1:=by omega
 refine ⟨by omega,?_,?_,?_,?_,?_,?_⟩<;>simp only [Pr.take0]<;>rw [hc] at *<;>omega
theorem CB.take1 {N:Nat} {c:Cl} {p0 p1:List Ed} (h:CB N c p0 p1) (h0:0<p1.length) (he:EdOk (hdE p1)):CB N (take1 c (hdE p1)) p0 (p1.drop 1):=by
 obtain ⟨h1,h2,h3,h4,h5,h6,h7⟩:=h
 obtain ⟨e1,e2,e3,e4⟩:=he
 have hd:(p1.drop 1).length=p1.length - 1:=List.length_drop
 have hc:(((p1.drop 1).length:Nat):Int)=(p1.length:Int) - 1:=by omega
 refine ⟨by omega,?_,?_,?_,?_,?_,?_⟩<;>simp only [Pr.take1]<;>rw [hc] at *<;>omega
theorem hd_b {l:List Ed} (h:∀ e ∈ l,EdOk e):0≤(hdE l).f0∧(hdE l).f0≤1048576:=by
 by_cases h0:0<l.length
 ·have:=hd_ok h h0
  obtain ⟨e1,e2,e3,e4⟩:=this
  omega
 have:l=[]:=List.length_eq_zero_iff.1 (by omega)
 subst this
 exact ⟨by decide,by decide⟩
theorem startC_b {l0 l1:List Ed} (h0:∀ e ∈ l0,EdOk e) (h1:∀ e ∈ l1,EdOk e):CB (l0.length+l1.length) (startC l0 l1) l0 l1:=by
 have b0:=hd_b h0
 have b1:=hd_b h1
 refine ⟨Nat.le_refl _,?_,?_,?_,?_,?_,?_⟩<;>simp only [startC]<;>first|omega|(split<;>omega)
def gclu_4.T4:Bool × List (List Nat × List Nat):=(true,[([],[]),([0],[0]),([1],[1]),([2],[2]),([3],[3]),([4],[4]),([],[]),([6],[6]),([7],[7]),([8],[8]),([9],[9]),([10],[10]),([5,11],[5,11]),([],[]),([13,12,0,1,2,3,4,5,6,7,8,9,10,11,12,13],[12,13])])
def gclu_4.B4:List Nat:=[0,1,3,7,15,31,0,64,192,448,960,1984,4095,0,16383]
theorem gclu_4.tab4:rtab .any (opsOf Try.f26 4)=gclu_4.T4:=by kernel_rfl
theorem gclu_4.bits4:waitsOk gclu_4.T4.2 gclu_4.B4=true:=by kernel_rfl
set_option maxRecDepth 100000 in
set_option maxHeartbeats 4000000 in
theorem clusters1_in (n:Nat) (hn:1≤n) (l B:Nat) (A0:Option Addr) (c0:Nat) (l0:List Ed) (A1:Option Addr) (c1:Nat) (l1:List Ed) (hk0:∀ e ∈ l0,EdOk e) (hk1:∀ e ∈ l1,EdOk e) (hl0:l0.length≤1048576) (hl1:l1.length≤1048576) (hc0:l0.length≤c0) (hc1:l1.length≤c1)
  (J:List Cl→World→Prop) (hJ:FreeC B J) (hE:∀ pre W,J pre W→Kd.C k52 W A0 l0.length l0∧Kd.C k52 W A1 l1.length l1)
  (hY:∀ pre x rest W,J pre W→clusters l0 l1=pre++x :: rest→YieldAt Fence.wide (n - 1) Try.prog l x.enc W fun e W'=>e=.returned (.bool true)∧J (pre++[x]) W'∧W'.heap[B]?=W.heap[B]?)
  (W:World) (hB:W.heap[B]?=some (.cells #[.slice A0 l0.length c0,.slice A1 l1.length c1] 43 (0,0))) (h0:J [] W) :
  CallsIn Fence.wide n Try.prog 26 #[.func (.yield l) #[] #[],.pointer (some ⟨B,0,none⟩)] W fun e W'=>(∃ v,e=.returned v)∧J (clusters l0 l1) W':=by
 have hu43:=Try.underlying43
 have hu46:=Try.underlying46
 have hu52:=Try.underlying52
 refine callsIn_of_wp Try.func26 rfl trivial ?_ rfl
 simp only [Try.ntmps26,List.size_toArray,List.length_cons,List.length_nil,Nat.reduceAdd,Nat.reduceSub,Array.replicate_succ,Array.replicate_zero,List.push_toArray,List.append_toArray,List.nil_append,List.cons_append]
 gi_wp2
 have HS:=Aside0.mk (RdS.mk (J:=J) (pre:=[]) hB ⟨hc0,hk0,fun _ h=>h⟩ ⟨hc1,hk1,fun _ h=>h⟩ h0)
 have HJ:=Aside0.mk hJ
 have HE:=Aside0.mk hE
 have HY:=Aside0.mk hY
 clear hB h0 hJ hE hY hk0 hk1
 gi_loopw [3] (fun i wr=>∃ (pre:List Cl) (A0' A1':Option Addr) (c0' c1':Nat) (l0' l1':List Ed),Aside0 (l0'.length≤l0.length∧l1'.length≤l1.length∧clusters l0 l1=pre++clusters l0' l1')∧Aside0 (RdS B A0 A1 l0 l1 J pre A0' A1' c0' c1' l0' l1' wr)) (fun i wr=>leftS B wr)
 case atStart=>exact ⟨[],A0,A1,c0,c1,l0,l1,⟨Nat.le_refl _,Nat.le_refl _,rfl⟩,HS⟩
 case round =>
  clear HS
  obtain ⟨pre,A0',A1',c0',c1',m0,m1,HL,HS⟩:=hrel
  have HMO:=Aside0.mk (leftS_eq HS.out.box)
  have z0:wr.cell? ⟨B,0,none⟩=some (.slice A0' m0.length c0'):=(blk_cell HS.out.box 0).trans rfl
  have z1:wr.cell? ⟨B,1,none⟩=some (.slice A1' m1.length c1'):=(blk_cell HS.out.box 1).trans rfl
  have ks:IntKind.i64.wrap ((m0.length:Int)+(m1.length:Int))=(m0.length:Int)+(m1.length:Int):=by have:=HL.out;exact IntWalk.i64_in _ (by omega)
  by_cases hz:m0.length+m1.length=0
  ·have HZ:=Aside0.mk hz
   have f1:decide ((0:Int)<(m0.length:Int)+(m1.length:Int))=false:=decide_eq_false (by omega)
   clear hz
   gi_wp2
   go_end0
   exact ⟨⟨_,rfl⟩,by have h1:=HL.out.2.2;rw [clusters_nil HZ.out,List.append_nil] at h1;rw [h1];exact HS.out.j⟩
  ·have HZ:=Aside0.mk (show 0<m0.length+m1.length by omega)
   have f1:decide ((0:Int)<(m0.length:Int)+(m1.length:Int))=true:=decide_eq_true (by omega)
   clear hz
   gi_upto_region 2 with (fail)
   refine wpIn_scope ?_
   gi_upto_region 2 with (fail)
   have hp0:=HL.out.1
   gi_cut [37] from 15 (fun u37 wc=>u37=.bool (side1 m0 m1)∧Aside0 (RdS B A0 A1 l0 l1 J pre A0' A1' c0' c1' m0 m1 wc)∧Aside0 (leftS B wc=leftS B wr))
   case first =>
    by_cases q0:m0.length=0
    ·have hs:side1 m0 m1=true:=by simp [side1,q0]
     have f2:((m0.length:Int) == 0)=true:=beq_iff_eq.2 (by omega)
     have f3:(m0.length == 0)=true:=beq_iff_eq.2 q0
     have HD:=Aside0.mk hs
     clear hs q0 hp0
     refine wpIn_wide.2 ?_
     go_wp2
     repeat (go_quiet (fail);try go_wp2)
     gi_meet
     case rel=>exact ⟨by rw [HD.out],⟨HS.out.drewN HJ.out _⟩,⟨leftS_drewN _ _ _⟩⟩
    ·have f2:((m0.length:Int) == 0)=false:=beq_eq_false_iff_ne.2 (by omega)
     have f3:(m0.length == 0)=false:=beq_eq_false_iff_ne.2 q0
     by_cases q1:0<m1.length
     ·have f4:decide ((0:Int)<(m1.length:Int))=true:=decide_eq_true (by omega)
      have f5:decide (0<m1.length)=true:=decide_eq_true q1
      have hs:side1 m0 m1=decide ((hdE m1).f0<(hdE m0).f0):=by simp [side1,q0,q1]
      have hrd:=HE.out _ _ HS.out.j
      obtain ⟨ad0,B0,d0,e0,hx0,hx1,hx2⟩:=at_hd (HS.out.s0.reads _ hrd.1) (by omega)
      obtain ⟨ad1,B1,d1,e1,hy0,hy1,hy2⟩:=at_hd (HS.out.s1.reads _ hrd.2) q1
      subst e0 e1
      have g0:(0:Int)<(m0.length:Int):=by omega
      have g1:(0:Int)<(m1.length:Int):=by omega
      generalize (hdE m1).f0=x1 at *
      generalize (hdE m0).f0=x0 at *
      generalize hzb:decide (x1<x0)=zb at *
      have HD:=Aside0.mk hs
      clear hs q0 q1 hp0 hrd hx1 hx2 hy1 hy2
      refine wpIn_wide.2 ?_
      go_wp2
      repeat (go_quiet (fail);try go_wp2)
      gi_meet
      case rel=>exact ⟨by rw [HD.out],⟨HS.out.drewN HJ.out _⟩,⟨leftS_drewN _ _ _⟩⟩
     ·have f4:decide ((0:Int)<(m1.length:Int))=false:=decide_eq_false (by omega)
      have f5:decide (0<m1.length)=false:=decide_eq_false q1
      have hs:side1 m0 m1=false:=by simp [side1,q0,q1]
      have HD:=Aside0.mk hs
      clear hs q0 q1 hp0
      refine wpIn_wide.2 ?_
      go_wp2
      repeat (go_quiet (fail);try go_wp2)
      gi_meet
      case rel=>exact ⟨by rw [HD.out],⟨HS.out.drewN HJ.out _⟩,⟨leftS_drewN _ _ _⟩⟩
   case rest =>
    obtain ⟨rfl,HS2,HM⟩:=hcut
    clear HS z0 z1 ks f1
    gi_upto_if 37 with (fail)
    gi_cut [3] from 15 (fun u3 wd=>u3=.int .i64 (if side1 m0 m1=true then 1 else 0)∧Aside0 (RdS B A0 A1 l0 l1 J pre A0' A1' c0' c1' m0 m1 wd)∧Aside0 (leftS B wd=leftS B wr))
    case first =>
     cases hs:side1 m0 m1 with
     | false =>
      gi_wp2
      gi_meet
      case rel=>exact ⟨by simp [hs],HS2,HM⟩
     | true =>
      gi_wp2
      gi_meet
      case rel=>exact ⟨by simp [hs],HS2,HM⟩
    case rest =>
     clear HS2 HM
     obtain ⟨rfl,HS,HM⟩:=hcut
     gi_upto_region 4 with (fail)
     gi_cut [3,4] from 15 (fun u3 u4 we=>∃ C:Nat,u4=.pointer (some ⟨C,0,none⟩)∧Aside0 (B≤C)∧Aside0 (we.heap[C]?=some (.cells (startC m0 m1).cells 46 (0,0)))∧Aside0 (RdS B A0 A1 l0 l1 J pre A0' A1' c0' c1' m0 m1 we)∧Aside0 (leftS B we=leftS B wr))
     case first =>
      have hrd:=HE.out _ _ HS.out.j
      have z0:wc.cell? ⟨B,0,none⟩=some (.slice A0' m0.length c0'):=(blk_cell HS.out.box 0).trans rfl
      have z1:wc.cell? ⟨B,1,none⟩=some (.slice A1' m1.length c1'):=(blk_cell HS.out.box 1).trans rfl
      obtain ⟨sd,hsd⟩:∃ sd,sd=side1 m0 m1:=⟨_,rfl⟩
      rw [← hsd]
      cases sd with
      | false =>
       simp only [Bool.false_eq_true,if_false,if_true]
       have hl:0<m0.length:=by
        have:=HZ.out
        have hs:=hsd.symm
        simp only [side1,Bool.or_eq_false_iff,decide_eq_false_iff_not] at hs
        omega
       have HD:=Aside0.mk (show (startC m0 m1).cells=#[.int .i64 (hdE m0).f0,.int .i64 (hdE m0).f0,.int .i64 0,.int .i64 0,.bool false,.bool false] by simp [startC,← hsd,Cl.cells])
       obtain ⟨ad,B0,d0,e0,hx0,hx1,hx2⟩:=at_hd (HS.out.s0.reads _ hrd.1) hl
       subst e0
       have g0:(0:Int)<(m0.length:Int):=by omega
       generalize (hdE m0).f0=x0 at *
       clear hrd hx1 hx2 hsd
       have za0:wc.drew.cell? ⟨B,0,none⟩=some (.slice (some ad) m0.length c0'):=z0
       have za1:wc.drew.cell? ad=some (.int .i64 x0):=hx0
       have HSd:=Aside0.mk (show RdS B A0 A1 l0 l1 J pre (some ad) A1' c0' c1' m0 m1 wc.drew from HS.out.drewN HJ.out 1)
       have HMd:=Aside0.mk (show leftS B wc.drew=leftS B wr from HM.out)
       clear z0 z1 hx0
       refine wpIn_wide.2 ?_
       refine start_ (n:=15) (S:=fun w'=>w'.cell? ⟨B,0,none⟩=some (.slice (some ad) m0.length c0')∧w'.cell? ad=some (.int .i64 x0)) (ds:=[14]) #[false,false,false,false,false,false,false,false,false,false,false,false,false,false,false] (by kernel_rfl) rfl rfl ⟨za0,za1⟩ (fun hHeld=>?_)
       refine with_tabW gclu_4.tab4 gclu_4.bits4 (fun HT_ HW_=>?_)
       generalize wc.drew=W2 at za0 za1 HSd HMd hHeld ⊢
       refine pure_ (i:=0) (N:=some 38) (v:=?_) (a':=?_) #[true,false,false,false,false,false,false,false,false,false,false,false,false,false,false] rfl rfl (any_of HT_.out (by kernel_rfl)) (fun _ _ _ h=>h) (Or.inl ⟨by rfl,?_⟩) ?_ ?_
       rotate_left
       ·intro w'
        go_simp
        with_reducible rfl
       rotate_left
       ·simp only [Act.put,List.setIfInBounds_toArray,List.set_cons_zero,List.set_cons_succ,i64_w,i32_w]
        rfl
       refine pure_ (i:=1) (N:=some 39) (v:=?_) (a':=?_) #[true,true,false,false,false,false,false,false,false,false,false,false,false,false,false] rfl rfl (any_of HT_.out (by kernel_rfl)) (fun _ _ _ h=>h) (Or.inl ⟨by rfl,?_⟩) ?_ ?_
       rotate_left
       ·intro w'
        go_simp
        with_reducible rfl
       rotate_left
       ·simp only [Act.put,List.setIfInBounds_toArray,List.set_cons_zero,List.set_cons_succ,i64_w,i32_w]
        rfl
       refine pure_ (i:=6) (N:=some 44) (v:=?_) (a':=?_) #[true,true,false,false,false,false,true,false,false,false,false,false,false,false,false] rfl rfl (any_of HT_.out (by kernel_rfl)) (fun _ _ _ h=>h) (Or.inl ⟨by rfl,?_⟩) ?_ ?_
       rotate_left
       ·intro w'
        go_simp
        with_reducible rfl
       rotate_left
       ·simp only [Act.put,List.setIfInBounds_toArray,List.set_cons_zero,List.set_cons_succ,i64_w,i32_w]
        rfl
       refine pure_ (i:=7) (N:=some 45) (v:=?_) (a':=?_) #[true,true,false,false,false,false,true,true,false,false,false,false,false,false,false] rfl rfl (any_of HT_.out (by kernel_rfl)) (fun _ _ _ h=>h) (Or.inl ⟨by rfl,?_⟩) ?_ ?_
       rotate_left
       ·intro w'
        go_simp
        with_reducible rfl
       rotate_left
       ·simp only [Act.put,List.setIfInBounds_toArray,List.set_cons_zero,List.set_cons_succ,i64_w,i32_w]
        rfl
       refine take_ (i:=2) (N:=some 40) (v:=?_) (a':=?_) #[true,true,true,false,false,false,true,true,false,false,false,false,false,false,false] rfl rfl (take_ofW HT_.out HW_.out (by kernel_rfl)) (fun _ _ _ h=>h) (Or.inl ⟨by rfl,?_⟩) hHeld ?_ ?_
       rotate_left
       ·rintro w' ⟨s0,s1⟩
        go_simp
        with_reducible rfl
       rotate_left
       ·simp only [Act.put,List.setIfInBounds_toArray,List.set_cons_zero,List.set_cons_succ,i64_w,i32_w]
        rfl
       refine pure_ (i:=3) (N:=some 41) (v:=?_) (a':=?_) #[true,true,true,true,false,false,true,true,false,false,false,false,false,false,false] rfl rfl (any_of HT_.out (by kernel_rfl)) (fun _ _ _ h=>h) (Or.inl ⟨by rfl,?_⟩) ?_ ?_
       rotate_left
       ·intro w'
        go_simp
        with_reducible rfl
       rotate_left
       ·simp only [Act.put,List.setIfInBounds_toArray,List.set_cons_zero,List.set_cons_succ,i64_w,i32_w]
        rfl
       refine pure_ (i:=4) (N:=some 42) (v:=?_) (a':=?_) #[true,true,true,true,true,false,true,true,false,false,false,false,false,false,false] rfl rfl (any_of HT_.out (by kernel_rfl)) (fun _ _ _ h=>h) (Or.inl ⟨by rfl,?_⟩) ?_ ?_
       rotate_left
       ·intro w'
        go_simp
        with_reducible rfl
       rotate_left
       ·simp only [Act.put,List.setIfInBounds_toArray,List.set_cons_zero,List.set_cons_succ,i64_w,i32_w]
        rfl
       refine take_ (i:=5) (N:=some 43) (v:=?_) (a':=?_) #[true,true,true,true,true,true,true,true,false,false,false,false,false,false,false] rfl rfl (take_ofW HT_.out HW_.out (by kernel_rfl)) (fun _ _ _ h=>h) (Or.inl ⟨by rfl,?_⟩) hHeld ?_ ?_
       rotate_left
       ·rintro w' ⟨s0,s1⟩
        go_simp
        with_reducible rfl
       rotate_left
       ·simp only [Act.put,List.setIfInBounds_toArray,List.set_cons_zero,List.set_cons_succ,i64_w,i32_w]
        rfl
       refine take_ (i:=8) (N:=some 46) (v:=?_) (a':=?_) #[true,true,true,true,true,true,true,true,true,false,false,false,false,false,false] rfl rfl (take_ofW HT_.out HW_.out (by kernel_rfl)) (fun _ _ _ h=>h) (Or.inl ⟨by rfl,?_⟩) hHeld ?_ ?_
       rotate_left
       ·rintro w' ⟨s0,s1⟩
        go_simp
        with_reducible rfl
       rotate_left
       ·simp only [Act.put,List.setIfInBounds_toArray,List.set_cons_zero,List.set_cons_succ,i64_w,i32_w]
        rfl
       refine pure_ (i:=9) (N:=some 47) (v:=?_) (a':=?_) #[true,true,true,true,true,true,true,true,true,true,false,false,false,false,false] rfl rfl (any_of HT_.out (by kernel_rfl)) (fun _ _ _ h=>h) (Or.inl ⟨by rfl,?_⟩) ?_ ?_
       rotate_left
       ·intro w'
        go_simp
        with_reducible rfl
       rotate_left
       ·simp only [Act.put,List.setIfInBounds_toArray,List.set_cons_zero,List.set_cons_succ,i64_w,i32_w]
        rfl
       refine pure_ (i:=10) (N:=some 48) (v:=?_) (a':=?_) #[true,true,true,true,true,true,true,true,true,true,true,false,false,false,false] rfl rfl (any_of HT_.out (by kernel_rfl)) (fun _ _ _ h=>h) (Or.inl ⟨by rfl,?_⟩) ?_ ?_
       rotate_left
       ·intro w'
        go_simp
        with_reducible rfl
       rotate_left
       ·simp only [Act.put,List.setIfInBounds_toArray,List.set_cons_zero,List.set_cons_succ,i64_w,i32_w]
        rfl
       refine take_ (i:=11) (N:=some 49) (v:=?_) (a':=?_) #[true,true,true,true,true,true,true,true,true,true,true,true,false,false,false] rfl rfl (take_ofW HT_.out HW_.out (by kernel_rfl)) (fun _ _ _ h=>h) (Or.inl ⟨by rfl,?_⟩) hHeld ?_ ?_
       rotate_left
       ·rintro w' ⟨s0,s1⟩
        go_simp
        with_reducible rfl
       rotate_left
       ·simp only [Act.put,List.setIfInBounds_toArray,List.set_cons_zero,List.set_cons_succ,i64_w,i32_w]
        rfl
       refine pure_ (i:=12) (N:=some 50) (v:=?_) (a':=?_) #[true,true,true,true,true,true,true,true,true,true,true,true,true,false,false] rfl rfl (any_of HT_.out (by kernel_rfl)) (fun _ _ _ h=>h) (Or.inl ⟨by rfl,?_⟩) ?_ ?_
       rotate_left
       ·intro w'
        go_simp
        with_reducible rfl
       rotate_left
       ·simp only [Act.put,List.setIfInBounds_toArray,List.set_cons_zero,List.set_cons_succ,i64_w,i32_w]
        rfl
       refine one_ (i:=13) (N:=some 4) #[true,true,true,true,true,true,true,true,true,true,true,true,true,true,false] rfl rfl (one_of HT_.out (by kernel_rfl)) (by decide) (fun K hK=>?_)
       refine value_ (w1:=?_) (v:=?_) (by rfl) rfl ?_ ?_
       rotate_left 2
       ·go_simp
        constructor
        ·rfl
        ·rfl
       refine hK.out _ _ ⟨(pw_cell_below (below_alloc (Below.refl _ _) _) za0),(pw_cell_below (below_alloc (Below.refl _ _) _) za1)⟩ (fun hHeld=>?_)
       clear hK K
       refine norm_ (a':=?_) ?_ ?_
       rotate_left
       ·show Act.put _ (some 4) _=_
        simp only [Act.put,List.setIfInBounds_toArray,List.set_cons_zero,List.set_cons_succ,i64_w,i32_w]
        rfl
       refine last_ (i:=14) (N:=none) #[true,true,true,true,true,true,true,true,true,true,true,true,true,true,true] rfl rfl (one_of HT_.out (by kernel_rfl)) (by decide) (fun K hK=>?_)
       refine skip_ (w1:=?_) (by rfl) rfl ?_ ?_
       rotate_left
       ·go_simp
        rfl
       refine hK.out _ _ ?_
       clear hK K
       refine done_ (done_of HT_.out (by kernel_rfl)) ?_

       simp only [Exit.then]
       first|gi_step|go_step
       gi_meet
       case rel=>exact ⟨_,rfl,⟨Nat.le_of_lt (blk_lt HSd.out.box)⟩,⟨by rw [HD.out];exact blk_new _ _⟩,⟨HSd.out.grow HJ.out (World.grownBy_alloc _ _ none) (fun r e=>by cases e)⟩,⟨(leftS_eq (blk_alloc HSd.out.box _)).trans ((leftS_eq HSd.out.box).symm.trans HMd.out)⟩⟩
      | true =>
       simp only [Bool.false_eq_true,if_false,if_true]
       have hl:0<m1.length:=by
        have:=HZ.out
        have hs:=hsd.symm
        simp only [side1,Bool.or_eq_true,Bool.and_eq_true,decide_eq_true_eq] at hs
        omega
       have HD:=Aside0.mk (show (startC m0 m1).cells=#[.int .i64 (hdE m1).f0,.int .i64 (hdE m1).f0,.int .i64 0,.int .i64 0,.bool false,.bool false] by simp [startC,← hsd,Cl.cells])
       obtain ⟨ad,B0,d0,e0,hx0,hx1,hx2⟩:=at_hd (HS.out.s1.reads _ hrd.2) hl
       subst e0
       have g0:(0:Int)<(m1.length:Int):=by omega
       generalize (hdE m1).f0=x0 at *
       clear hrd hx1 hx2 hsd
       have za0:wc.drew.cell? ⟨B,1,none⟩=some (.slice (some ad) m1.length c1'):=z1
       have za1:wc.drew.cell? ad=some (.int .i64 x0):=hx0
       have HSd:=Aside0.mk (show RdS B A0 A1 l0 l1 J pre A0' (some ad) c0' c1' m0 m1 wc.drew from HS.out.drewN HJ.out 1)
       have HMd:=Aside0.mk (show leftS B wc.drew=leftS B wr from HM.out)
       clear z0 z1 hx0
       refine wpIn_wide.2 ?_
       refine start_ (n:=15) (S:=fun w'=>w'.cell? ⟨B,1,none⟩=some (.slice (some ad) m1.length c1')∧w'.cell? ad=some (.int .i64 x0)) (ds:=[14]) #[false,false,false,false,false,false,false,false,false,false,false,false,false,false,false] (by kernel_rfl) rfl rfl ⟨za0,za1⟩ (fun hHeld=>?_)
       refine with_tabW gclu_4.tab4 gclu_4.bits4 (fun HT_ HW_=>?_)
       generalize wc.drew=W2 at za0 za1 HSd HMd hHeld ⊢
       refine pure_ (i:=0) (N:=some 38) (v:=?_) (a':=?_) #[true,false,false,false,false,false,false,false,false,false,false,false,false,false,false] rfl rfl (any_of HT_.out (by kernel_rfl)) (fun _ _ _ h=>h) (Or.inl ⟨by rfl,?_⟩) ?_ ?_
       rotate_left
       ·intro w'
        go_simp
        with_reducible rfl
       rotate_left
       ·simp only [Act.put,List.setIfInBounds_toArray,List.set_cons_zero,List.set_cons_succ,i64_w,i32_w]
        rfl
       refine pure_ (i:=1) (N:=some 39) (v:=?_) (a':=?_) #[true,true,false,false,false,false,false,false,false,false,false,false,false,false,false] rfl rfl (any_of HT_.out (by kernel_rfl)) (fun _ _ _ h=>h) (Or.inl ⟨by rfl,?_⟩) ?_ ?_
       rotate_left
       ·intro w'
        go_simp
        with_reducible rfl
       rotate_left
       ·simp only [Act.put,List.setIfInBounds_toArray,List.set_cons_zero,List.set_cons_succ,i64_w,i32_w]
        rfl
       refine pure_ (i:=6) (N:=some 44) (v:=?_) (a':=?_) #[true,true,false,false,false,false,true,false,false,false,false,false,false,false,false] rfl rfl (any_of HT_.out (by kernel_rfl)) (fun _ _ _ h=>h) (Or.inl ⟨by rfl,?_⟩) ?_ ?_
       rotate_left
       ·intro w'
        go_simp
        with_reducible rfl
       rotate_left
       ·simp only [Act.put,List.setIfInBounds_toArray,List.set_cons_zero,List.set_cons_succ,i64_w,i32_w]
        rfl
       refine pure_ (i:=7) (N:=some 45) (v:=?_) (a':=?_) #[true,true,false,false,false,false,true,true,false,false,false,false,false,false,false] rfl rfl (any_of HT_.out (by kernel_rfl)) (fun _ _ _ h=>h) (Or.inl ⟨by rfl,?_⟩) ?_ ?_
       rotate_left
       ·intro w'
        go_simp
        with_reducible rfl
       rotate_left
       ·simp only [Act.put,List.setIfInBounds_toArray,List.set_cons_zero,List.set_cons_succ,i64_w,i32_w]
        rfl
       refine take_ (i:=2) (N:=some 40) (v:=?_) (a':=?_) #[true,true,true,false,false,false,true,true,false,false,false,false,false,false,false] rfl rfl (take_ofW HT_.out HW_.out (by kernel_rfl)) (fun _ _ _ h=>h) (Or.inl ⟨by rfl,?_⟩) hHeld ?_ ?_
       rotate_left
       ·rintro w' ⟨s0,s1⟩
        go_simp
        with_reducible rfl
       rotate_left
       ·simp only [Act.put,List.setIfInBounds_toArray,List.set_cons_zero,List.set_cons_succ,i64_w,i32_w]
        rfl
       refine pure_ (i:=3) (N:=some 41) (v:=?_) (a':=?_) #[true,true,true,true,false,false,true,true,false,false,false,false,false,false,false] rfl rfl (any_of HT_.out (by kernel_rfl)) (fun _ _ _ h=>h) (Or.inl ⟨by rfl,?_⟩) ?_ ?_
       rotate_left
       ·intro w'
        go_simp
        with_reducible rfl
       rotate_left
       ·simp only [Act.put,List.setIfInBounds_toArray,List.set_cons_zero,List.set_cons_succ,i64_w,i32_w]
        rfl
       refine pure_ (i:=4) (N:=some 42) (v:=?_) (a':=?_) #[true,true,true,true,true,false,true,true,false,false,false,false,false,false,false] rfl rfl (any_of HT_.out (by kernel_rfl)) (fun _ _ _ h=>h) (Or.inl ⟨by rfl,?_⟩) ?_ ?_
       rotate_left
       ·intro w'
        go_simp
        with_reducible rfl
       rotate_left
       ·simp only [Act.put,List.setIfInBounds_toArray,List.set_cons_zero,List.set_cons_succ,i64_w,i32_w]
        rfl
       refine take_ (i:=5) (N:=some 43) (v:=?_) (a':=?_) #[true,true,true,true,true,true,true,true,false,false,false,false,false,false,false] rfl rfl (take_ofW HT_.out HW_.out (by kernel_rfl)) (fun _ _ _ h=>h) (Or.inl ⟨by rfl,?_⟩) hHeld ?_ ?_
       rotate_left
       ·rintro w' ⟨s0,s1⟩
        go_simp
        with_reducible rfl
       rotate_left
       ·simp only [Act.put,List.setIfInBounds_toArray,List.set_cons_zero,List.set_cons_succ,i64_w,i32_w]
        rfl
       refine take_ (i:=8) (N:=some 46) (v:=?_) (a':=?_) #[true,true,true,true,true,true,true,true,true,false,false,false,false,false,false] rfl rfl (take_ofW HT_.out HW_.out (by kernel_rfl)) (fun _ _ _ h=>h) (Or.inl ⟨by rfl,?_⟩) hHeld ?_ ?_
       rotate_left
       ·rintro w' ⟨s0,s1⟩
        go_simp
        with_reducible rfl
       rotate_left
       ·simp only [Act.put,List.setIfInBounds_toArray,List.set_cons_zero,List.set_cons_succ,i64_w,i32_w]
        rfl
       refine pure_ (i:=9) (N:=some 47) (v:=?_) (a':=?_) #[true,true,true,true,true,true,true,true,true,true,false,false,false,false,false] rfl rfl (any_of HT_.out (by kernel_rfl)) (fun _ _ _ h=>h) (Or.inl ⟨by rfl,?_⟩) ?_ ?_
       rotate_left
       ·intro w'
        go_simp
        with_reducible rfl
       rotate_left
       ·simp only [Act.put,List.setIfInBounds_toArray,List.set_cons_zero,List.set_cons_succ,i64_w,i32_w]
        rfl
       refine pure_ (i:=10) (N:=some 48) (v:=?_) (a':=?_) #[true,true,true,true,true,true,true,true,true,true,true,false,false,false,false] rfl rfl (any_of HT_.out (by kernel_rfl)) (fun _ _ _ h=>h) (Or.inl ⟨by rfl,?_⟩) ?_ ?_
       rotate_left
       ·intro w'
        go_simp
        with_reducible rfl
       rotate_left
       ·simp only [Act.put,List.setIfInBounds_toArray,List.set_cons_zero,List.set_cons_succ,i64_w,i32_w]
        rfl
       refine take_ (i:=11) (N:=some 49) (v:=?_) (a':=?_) #[true,true,true,true,true,true,true,true,true,true,true,true,false,false,false] rfl rfl (take_ofW HT_.out HW_.out (by kernel_rfl)) (fun _ _ _ h=>h) (Or.inl ⟨by rfl,?_⟩) hHeld ?_ ?_
       rotate_left
       ·rintro w' ⟨s0,s1⟩
        go_simp
        with_reducible rfl
       rotate_left
       ·simp only [Act.put,List.setIfInBounds_toArray,List.set_cons_zero,List.set_cons_succ,i64_w,i32_w]
        rfl
       refine pure_ (i:=12) (N:=some 50) (v:=?_) (a':=?_) #[true,true,true,true,true,true,true,true,true,true,true,true,true,false,false] rfl rfl (any_of HT_.out (by kernel_rfl)) (fun _ _ _ h=>h) (Or.inl ⟨by rfl,?_⟩) ?_ ?_
       rotate_left
       ·intro w'
        go_simp
        with_reducible rfl
       rotate_left
       ·simp only [Act.put,List.setIfInBounds_toArray,List.set_cons_zero,List.set_cons_succ,i64_w,i32_w]
        rfl
       refine one_ (i:=13) (N:=some 4) #[true,true,true,true,true,true,true,true,true,true,true,true,true,true,false] rfl rfl (one_of HT_.out (by kernel_rfl)) (by decide) (fun K hK=>?_)
       refine value_ (w1:=?_) (v:=?_) (by rfl) rfl ?_ ?_
       rotate_left 2
       ·go_simp
        constructor
        ·rfl
        ·rfl
       refine hK.out _ _ ⟨(pw_cell_below (below_alloc (Below.refl _ _) _) za0),(pw_cell_below (below_alloc (Below.refl _ _) _) za1)⟩ (fun hHeld=>?_)
       clear hK K
       refine norm_ (a':=?_) ?_ ?_
       rotate_left
       ·show Act.put _ (some 4) _=_
        simp only [Act.put,List.setIfInBounds_toArray,List.set_cons_zero,List.set_cons_succ,i64_w,i32_w]
        rfl
       refine last_ (i:=14) (N:=none) #[true,true,true,true,true,true,true,true,true,true,true,true,true,true,true] rfl rfl (one_of HT_.out (by kernel_rfl)) (by decide) (fun K hK=>?_)
       refine skip_ (w1:=?_) (by rfl) rfl ?_ ?_
       rotate_left
       ·go_simp
        rfl
       refine hK.out _ _ ?_
       clear hK K
       refine done_ (done_of HT_.out (by kernel_rfl)) ?_

       simp only [Exit.then]
       first|gi_step|go_step
       gi_meet
       case rel=>exact ⟨_,rfl,⟨Nat.le_of_lt (blk_lt HSd.out.box)⟩,⟨by rw [HD.out];exact blk_new _ _⟩,⟨HSd.out.grow HJ.out (World.grownBy_alloc _ _ none) (fun r e=>by cases e)⟩,⟨(leftS_eq (blk_alloc HSd.out.box _)).trans ((leftS_eq HSd.out.box).symm.trans HMd.out)⟩⟩
     case rest =>
      clear HS HM
      obtain ⟨C,rfl,HBC,HC,HS,HM⟩:=hcut
      have HCB0:=Aside0.mk (startC_b HS.out.s0.ok HS.out.s1.ok)
      have HPL:=Aside0.mk (show m0.length+m1.length≤2097152 by have:=HL.out;omega)
      gi_wp2
      refine wpIn_label ?_
      gi_wp2
      gi_loopw [5] (fun v5 wr=>∃ (c:Cl) (A0n A1n:Option Addr) (c0n c1n:Nat) (p0 p1:List Ed),Aside0 (absorb c p0 p1=absorb (startC m0 m1) m0 m1)∧Aside0 (CB (m0.length+m1.length) c p0 p1)∧Aside0 (p0.length≤m0.length∧p1.length≤m1.length)∧Aside0 (wr.heap[C]?=some (.cells c.cells 46 (0,0)))∧Aside0 (RdS B A0 A1 l0 l1 J pre A0n A1n c0n c1n p0 p1 wr)) (fun v5 wr=>leftS B wr)
      case atStart=>exact ⟨startC m0 m1,A0',A1',c0',c1',m0,m1,⟨rfl⟩,HCB0,⟨Nat.le_refl _,Nat.le_refl _⟩,HC,HS⟩
      case round =>
       clear HC HS HCB0
       obtain ⟨c,A0n,A1n,c0n,c1n,p0,p1,HAB,HCB,HLP,HC,HS⟩:=hrel
       have z0:wr.cell? ⟨B,0,none⟩=some (.slice A0n p0.length c0n):=(blk_cell HS.out.box 0).trans rfl
       have z1:wr.cell? ⟨B,1,none⟩=some (.slice A1n p1.length c1n):=(blk_cell HS.out.box 1).trans rfl
       have HM2:=Aside0.mk (leftS_eq HS.out.box)
       gi_wp2
       gi_loopw [52] (fun u52 wr=>∃ i:Nat,u52=.int .i64 (i:Int)∧Aside0 (i≤2∧(0<i→meetsE c.t p0=false)∧(1<i→meetsE c.t p1=false))∧Aside0 (wr.heap[C]?=some (.cells c.cells 46 (0,0)))∧Aside0 (RdS B A0 A1 l0 l1 J pre A0n A1n c0n c1n p0 p1 wr)) (fun u52 wr=>2 - (intOf u52).toNat)
       case atStart=>exact ⟨0,rfl,⟨by omega,fun h=>absurd h (by omega),fun h=>absurd h (by omega)⟩,HC,HS⟩
       case round =>
        clear HC HS z0 z1
        obtain ⟨i,rfl,HI,HC,HS⟩:=hrel
        have hi3:i=0∨i=1∨i=2:=by have:=HI.out.1;omega
        rcases hi3 with hi|hi|hi
        ·subst hi
         have z0:wr.cell? ⟨B,0,none⟩=some (.slice A0n p0.length c0n):=(blk_cell HS.out.box 0).trans rfl
         have z1:wr.cell? ⟨B,1,none⟩=some (.slice A1n p1.length c1n):=(blk_cell HS.out.box 1).trans rfl
         have hix:=ix0 A0n A1n p0.length c0n p1.length c1n
         gi_upto_region 8 with (fail)
         gi_cut [67] from 82 (fun u67 wf=>u67=.bool (meetsE c.t p0)∧Aside0 (wf.heap[C]?=some (.cells c.cells 46 (0,0)))∧Aside0 (RdS B A0 A1 l0 l1 J pre A0n A1n c0n c1n p0 p1 wf))
         case first =>
          have hrd:=HE.out _ _ HS.out.j
          have zc:wr.cell? ⟨C,1,none⟩=some (.int .i64 c.t):=(blk_cell HC.out 1).trans rfl
          by_cases q0:0<p0.length
          ·have f4:decide ((0:Int)<(p0.length:Int))=true:=decide_eq_true (by omega)
           have f5:decide (0<p0.length)=true:=decide_eq_true q0
           have hs:meetsE c.t p0=decide ((hdE p0).f0≤c.t):=by simp [meetsE,q0]
           obtain ⟨ad0,B0,d0,e0,hx0,hx1,hx2⟩:=at_hd (HS.out.s0.reads _ hrd.1) q0
           subst e0
           have g0:(0:Int)<(p0.length:Int):=by omega
           generalize (hdE p0).f0=x0 at *
           generalize hzb:decide (x0≤c.t)=zb at *
           have HD:=Aside0.mk hs
           clear hs hrd hx1 hx2
           refine wpIn_wide.2 ?_
           go_wp2
           repeat (go_quiet (fail);try go_wp2)
           gi_meet
           case rel=>exact ⟨by rw [HD.out],⟨HC.out⟩,⟨HS.out.drewN HJ.out _⟩⟩
          ·have f4:decide ((0:Int)<(p0.length:Int))=false:=decide_eq_false (by omega)
           have f5:decide (0<p0.length)=false:=decide_eq_false q0
           have HD:=Aside0.mk (show meetsE c.t p0=false by simp [meetsE,q0])
           clear q0 hrd
           refine wpIn_wide.2 ?_
           go_wp2
           repeat (go_quiet (fail);try go_wp2)
           gi_meet
           case rel=>exact ⟨by rw [HD.out],⟨HC.out⟩,⟨HS.out.drewN HJ.out _⟩⟩
         case rest =>
          clear HS HC z0 z1
          obtain ⟨rfl,HC,HS⟩:=hcut
          cases hmt:meetsE c.t p0 with
          | false =>
           have HMT:=Aside0.mk hmt
           clear hmt
           gi_wp2
           refine ⟨?_,?_⟩
           ·skip
            exact ⟨1,rfl,⟨⟨by omega,fun _=>HMT.out,fun h=>absurd h (by omega)⟩⟩,HC,HS⟩
           ·simp [intOf]
          | true =>
           have HMT:=Aside0.mk hmt
           have hlp:=meets_len hmt
           have hrd:=HE.out _ _ HS.out.j
           obtain ⟨ad0,B0,d0,e0,hx0,hx1,hx2⟩:=at_hd (HS.out.s0.reads _ hrd.1) hlp
           obtain ⟨A2,hs1,hsd⟩:=HS.out.s0.drop hlp
           have HCB2:=Aside0.mk (HCB.out.take0 hlp (hd_ok HS.out.s0.ok hlp))
           have HEO:=Aside0.mk (hd_ok HS.out.s0.ok hlp)
           subst e0
           have g0:(0:Int)<(p0.length:Int):=by omega
           have HSD:=Aside0.mk hsd
           clear hmt hrd hsd
           gi_wp2_with (refine ⟨trivial,?_⟩;gi_at_call 27;refine (callsIn_wide.2 (take0_calls C c.f c.t c.m0 c.m1 (hdE p0).f0 (hdE p0).f1 c.h0 c.h1 B0 (hdE p0).f2.length d0 _ HC.out (by have:=HCB.out;have:=HEO.out;obtain ⟨b1,b2,b3,b4,b5,b6,b7⟩:=HCB.out;obtain ⟨e1,e2,e3,e4⟩:=HEO.out;have:=HL.out;have:=HPL.out;omega))).mono ?_;rintro e w9 ⟨rfl,hC9,hg9⟩;have HC9:=Aside0.mk hC9;have HS9:=Aside0.mk (HS.out.grow HJ.out hg9 (fun r e=>by cases e;exact ⟨HBC.out,_,HC.out⟩));have y0:w9.cell? ⟨B,0,none⟩=some (.slice (some ad0) p0.length c0n):=(blk_cell HS9.out.box 0).trans rfl;have y1:=blk_frozen HS9.out.box 0;clear hC9 hg9)
           refine ⟨?_,?_⟩
           ·skip
            rw [← List.length_drop]
            exact ⟨take0 c (hdE p0),A2,A1n,(c0n - 1),c1n,(p0.drop 1),p1,⟨by rw [← HAB.out];exact (absorb_0 HMT.out).symm⟩,HCB2,⟨by have:=HLP.out;have:(p0.drop 1).length=p0.length - 1:=List.length_drop;omega,by have:=HLP.out;have:(p0.drop 1).length=p0.length - 1:=List.length_drop;omega⟩,⟨(Below.heap_setCell _ _ _ _ (blk_ne HC9.out HS9.out.box (by decide))).trans HC9.out⟩,
             ⟨⟨blk_put HS9.out.box 0 _ rfl,HSD.out,HS9.out.s1,HJ.out _ _ _ _ HS9.out.j (grown_set _ B 0 _) (fun r e=>by cases e;exact ⟨Nat.le_refl _,_,43,HS9.out.box,.inl rfl⟩)⟩⟩⟩
           ·skip
            rw [← List.length_drop,leftS_eq (blk_put HS9.out.box 0 _ rfl),HM2.out]
            have:(p0.drop 1).length=p0.length - 1:=List.length_drop
            omega
        ·subst hi
         have z0:wr.cell? ⟨B,0,none⟩=some (.slice A0n p0.length c0n):=(blk_cell HS.out.box 0).trans rfl
         have z1:wr.cell? ⟨B,1,none⟩=some (.slice A1n p1.length c1n):=(blk_cell HS.out.box 1).trans rfl
         have hix:=ix1 A0n A1n p0.length c0n p1.length c1n
         gi_upto_region 8 with (fail)
         gi_cut [67] from 82 (fun u67 wf=>u67=.bool (meetsE c.t p1)∧Aside0 (wf.heap[C]?=some (.cells c.cells 46 (0,0)))∧Aside0 (RdS B A0 A1 l0 l1 J pre A0n A1n c0n c1n p0 p1 wf))
         case first =>
          have hrd:=HE.out _ _ HS.out.j
          have zc:wr.cell? ⟨C,1,none⟩=some (.int .i64 c.t):=(blk_cell HC.out 1).trans rfl
          by_cases q0:0<p1.length
          ·have f4:decide ((0:Int)<(p1.length:Int))=true:=decide_eq_true (by omega)
           have f5:decide (0<p1.length)=true:=decide_eq_true q0
           have hs:meetsE c.t p1=decide ((hdE p1).f0≤c.t):=by simp [meetsE,q0]
           obtain ⟨ad0,B0,d0,e0,hx0,hx1,hx2⟩:=at_hd (HS.out.s1.reads _ hrd.2) q0
           subst e0
           have g0:(0:Int)<(p1.length:Int):=by omega
           generalize (hdE p1).f0=x0 at *
           generalize hzb:decide (x0≤c.t)=zb at *
           have HD:=Aside0.mk hs
           clear hs hrd hx1 hx2
           refine wpIn_wide.2 ?_
           go_wp2
           repeat (go_quiet (fail);try go_wp2)
           gi_meet
           case rel=>exact ⟨by rw [HD.out],⟨HC.out⟩,⟨HS.out.drewN HJ.out _⟩⟩
          ·have f4:decide ((0:Int)<(p1.length:Int))=false:=decide_eq_false (by omega)
           have f5:decide (0<p1.length)=false:=decide_eq_false q0
           have HD:=Aside0.mk (show meetsE c.t p1=false by simp [meetsE,q0])
           clear q0 hrd
           refine wpIn_wide.2 ?_
           go_wp2
           repeat (go_quiet (fail);try go_wp2)
           gi_meet
           case rel=>exact ⟨by rw [HD.out],⟨HC.out⟩,⟨HS.out.drewN HJ.out _⟩⟩
         case rest =>
          clear HS HC z0 z1
          obtain ⟨rfl,HC,HS⟩:=hcut
          cases hmt:meetsE c.t p1 with
          | false =>
           have HMT:=Aside0.mk hmt
           clear hmt
           gi_wp2
           refine ⟨?_,?_⟩
           ·skip
            exact ⟨2,rfl,⟨⟨by omega,fun _=>HI.out.2.1 (by omega),fun _=>HMT.out⟩⟩,HC,HS⟩
           ·simp [intOf]
          | true =>
           have HMT:=Aside0.mk hmt
           have hlp:=meets_len hmt
           have hrd:=HE.out _ _ HS.out.j
           obtain ⟨ad0,B0,d0,e0,hx0,hx1,hx2⟩:=at_hd (HS.out.s1.reads _ hrd.2) hlp
           obtain ⟨A2,hs1,hsd⟩:=HS.out.s1.drop hlp
           have HCB2:=Aside0.mk (HCB.out.take1 hlp (hd_ok HS.out.s1.ok hlp))
           have HEO:=Aside0.mk (hd_ok HS.out.s1.ok hlp)
           subst e0
           have g0:(0:Int)<(p1.length:Int):=by omega
           have HSD:=Aside0.mk hsd
           clear hmt hrd hsd
           gi_wp2_with (refine ⟨trivial,?_⟩;gi_at_call 27;refine (callsIn_wide.2 (take1_calls C c.f c.t c.m0 c.m1 (hdE p1).f0 (hdE p1).f1 c.h0 c.h1 B0 (hdE p1).f2.length d0 _ HC.out (by have:=HCB.out;have:=HEO.out;obtain ⟨b1,b2,b3,b4,b5,b6,b7⟩:=HCB.out;obtain ⟨e1,e2,e3,e4⟩:=HEO.out;have:=HL.out;have:=HPL.out;omega))).mono ?_;rintro e w9 ⟨rfl,hC9,hg9⟩;have HC9:=Aside0.mk hC9;have HS9:=Aside0.mk (HS.out.grow HJ.out hg9 (fun r e=>by cases e;exact ⟨HBC.out,_,HC.out⟩));have y0:w9.cell? ⟨B,1,none⟩=some (.slice (some ad0) p1.length c1n):=(blk_cell HS9.out.box 1).trans rfl;have y1:=blk_frozen HS9.out.box 1;clear hC9 hg9)
           refine ⟨?_,?_⟩
           ·skip
            rw [← List.length_drop]
            exact ⟨take1 c (hdE p1),A0n,A2,c0n,(c1n - 1),p0,(p1.drop 1),⟨by rw [← HAB.out];exact (absorb_1 (HI.out.2.1 (by omega)) HMT.out).symm⟩,HCB2,⟨by have:=HLP.out;have:(p1.drop 1).length=p1.length - 1:=List.length_drop;omega,by have:=HLP.out;have:(p1.drop 1).length=p1.length - 1:=List.length_drop;omega⟩,⟨(Below.heap_setCell _ _ _ _ (blk_ne HC9.out HS9.out.box (by decide))).trans HC9.out⟩,
             ⟨⟨blk_put HS9.out.box 1 _ rfl,HS9.out.s0,HSD.out,HJ.out _ _ _ _ HS9.out.j (grown_set _ B 1 _) (fun r e=>by cases e;exact ⟨Nat.le_refl _,_,43,HS9.out.box,.inl rfl⟩)⟩⟩⟩
           ·skip
            rw [← List.length_drop,leftS_eq (blk_put HS9.out.box 1 _ rfl),HM2.out]
            have:(p1.drop 1).length=p1.length - 1:=List.length_drop
            omega
        ·subst hi
         have zc0:wr.cell? ⟨C,0,none⟩=some (.int .i64 c.f):=(blk_cell HC.out 0).trans rfl
         have zc1:wr.cell? ⟨C,1,none⟩=some (.int .i64 c.t):=(blk_cell HC.out 1).trans rfl
         have zc2:wr.cell? ⟨C,2,none⟩=some (.int .i64 c.m0):=(blk_cell HC.out 2).trans rfl
         have zc3:wr.cell? ⟨C,3,none⟩=some (.int .i64 c.m1):=(blk_cell HC.out 3).trans rfl
         have zc4:wr.cell? ⟨C,4,none⟩=some (.bool c.h0):=(blk_cell HC.out 4).trans rfl
         have zc5:wr.cell? ⟨C,5,none⟩=some (.bool c.h1):=(blk_cell HC.out 5).trans rfl
         have HCO:=Aside0.mk (show clusters l0 l1=pre++c :: clusters p0 p1∧p0.length+p1.length<m0.length+m1.length by
          have e:=absorb_no (HI.out.2.1 (by omega)) (HI.out.2.2 (by omega))
          have h1:=HL.out.2.2
          have h2:=clusters_cons (l0:=m0) (l1:=m1) HZ.out
          have h3:=start_lt m0 m1 HZ.out
          rw [← HAB.out,e] at h2 h3
          exact ⟨by rw [h1,h2],h3⟩)
         obtain ⟨fn,tmps,assign,body,hy,hR⟩:=HY.out pre c _ wr HS.out.j HCO.out.1
         simp only [Cl.enc] at hy
         gi_wp2
         refine hR.mono ?_
         rintro e W3 ⟨rfl,hJ3,hB3⟩
         have HS3:=Aside0.mk (RdS.mk (hB3.trans HS.out.box) HS.out.s0 HS.out.s1 hJ3)
         clear hJ3 hB3 hy hR zc0 zc1 zc2 zc3 zc4 zc5
         gi_wp2
         refine ⟨?_,?_⟩
         ·(repeat apply Exists.intro)
          refine ⟨?_,rfl⟩
          exact ⟨pre++[c],A0n,A1n,c0n,c1n,p0,p1,⟨by have:=HLP.out;have:=HL.out;omega,by have:=HLP.out;have:=HL.out;omega,by rw [HCO.out.1,List.append_assoc];rfl⟩,HS3⟩
         ·skip
          rw [leftS_eq HS3.out.box,HMO.out]
          exact HCO.out.2
end Go.Proofs.Ytnmphfelebkaiaa.Pr
-- shrunk
/-
align.Regions' closure add: the region behind the last one is made, kept, and appended.
-/
namespace Go.Proofs.Ytnmphfelebkaiaa.Pr
open Go.RowKit Go.Proofs.YtnmphfelebkaiaaW.PrintWords Go.Proofs.YtnmphfelebkaiaaW.PrintLast Go.Proofs.YtnmphfelebkaiaaW.PrintMore
structure RB (w0:World) (L O:Nat) (last:S32) (v:Value) (out:List S32) (W:World):Prop where
 lastB:W.heap[L]?=some (.cells #[.int .i64 last.f0,.int .i64 last.f1.f0,.int .i64 last.f1.f1,.int .i64 last.f2.f0,.int .i64 last.f2.f1,.int .i64 last.f3.f0,.int .i64 last.f3.f1] 32 (0,0))
 outB:W.heap[O]?=some (.cells #[v] 25 (0,0))
 row:Kd.R k32 32 W w0.heap.size (fun _=>True) v out
 ne:some L≠v.ownBlock
 bel:Below w0.heap.size w0 W
 hL:w0.heap.size≤L
 hO:w0.heap.size≤O
theorem row_far {W:World} {b0:Nat} {v:Value} {out:List S32} (h:Kd.R k32 32 W b0 (fun _=>True) v out) {b:Nat} (hb:some b≠v.ownBlock) (j:Nat) (u:Value):Kd.R k32 32 (W.setCell ⟨b,j,none⟩ u) b0 (fun _=>True) v out :=
 Kd.R_mono (Kd.R_far (p:=⟨b,j,none⟩) (Kd.R_tight rfl h) (fun k hk=>fun e_=>hb (by rw [← hk];exact congrArg some e_.symm)) u) (fun _ _=>trivial)
theorem row_ne {W:World} {b0:Nat} {v:Value} {out:List S32} (h:Kd.R k32 32 W b0 (fun _=>True) v out) {b t:Nat} {cs:Array Value} (hb:W.heap[b]?=some (.cells cs t (0,0))) (ht:t≠32):some b≠v.ownBlock:=by
 intro he
 obtain ⟨cells,hc⟩:=Kd.R_typed h b he.symm
 rw [hb] at hc
 injection hc with hc
 injection hc with _ hc
 exact ht hc
theorem RB.below {w0:World} {L O:Nat} {last:S32} {v:Value} {out:List S32} {W W1:World} (h:RB w0 L O last v out W) (hb:Below W.heap.size W W1):RB w0 L O last v out W1 :=
 ⟨blk_below h.lastB hb,blk_below h.outB hb,Kd.R_below h.row hb,h.ne,below_then h.bel h.bel.size hb,h.hL,h.hO⟩
def Else (L O:Nat) (v:Value) (W W':World):Prop:=W.heap.size≤W'.heap.size∧∀ k,k<W.heap.size→k≠L→k≠O→some k≠v.ownBlock→W'.heap[k]?=W.heap[k]?
theorem Else.below {L O:Nat} {v:Value} {W W1 W2:World} (h:Else L O v W W1) (hb:Below W1.heap.size W1 W2):Else L O v W W2 :=
 ⟨Nat.le_trans h.1 hb.size,fun k h1 h2 h3 h4=>(hb.block k (Nat.lt_of_lt_of_le h1 h.1)).trans (h.2 k h1 h2 h3 h4)⟩
theorem Else.set {L O:Nat} {v:Value} {W W1:World} (h:Else L O v W W1) {b:Nat} (hb:b=L∨b=O) (j:Nat) (u:Value):Else L O v W (W1.setCell ⟨b,j,none⟩ u) :=
 ⟨by simp [World.setCell];exact h.1,fun k h1 h2 h3 h4=>(Below.heap_setCell W1 ⟨b,j,none⟩ u k (by rintro rfl;rcases hb with hb|hb<;>simp_all)).trans (h.2 k h1 h2 h3 h4)⟩
theorem Else.grown {L O:Nat} {v:Value} {W W1 W2:World} (h:Else L O v W W1) (hg:W1.grownBy W2 v.ownBlock):Else L O v W W2 :=
 ⟨Nat.le_trans h.1 hg.size,fun k h1 h2 h3 h4=>(hg.block k (Nat.lt_of_lt_of_le h1 h.1) h4).trans (h.2 k h1 h2 h3 h4)⟩
theorem keep7 {W:World} {L k:Nat} (u0 u1 u2 u3 u4 u5 u6:Value) (hk:k≠L):(((((((W.setCell ⟨L,0,none⟩ u0).setCell ⟨L,1,none⟩ u1).setCell ⟨L,2,none⟩ u2).setCell ⟨L,3,none⟩ u3).setCell ⟨L,4,none⟩ u4).setCell ⟨L,5,none⟩ u5).setCell ⟨L,6,none⟩ u6).heap[k]?=W.heap[k]?:=by
 rw [Below.heap_setCell _ ⟨L,6,none⟩ _ k hk,Below.heap_setCell _ ⟨L,5,none⟩ _ k hk,Below.heap_setCell _ ⟨L,4,none⟩ _ k hk,Below.heap_setCell _ ⟨L,3,none⟩ _ k hk,Below.heap_setCell _ ⟨L,2,none⟩ _ k hk,Below.heap_setCell _ ⟨L,1,none⟩ _ k hk,Below.heap_setCell _ ⟨L,0,none⟩ _ k hk]
theorem RB.put7 {w0:World} {L O:Nat} {last:S32} {v:Value} {out:List S32} {W:World} (h:RB w0 L O last v out W) (r:S32):RB w0 L O r v out (((((((W.setCell ⟨L,0,none⟩ (.int .i64 r.f0)).setCell ⟨L,1,none⟩ (.int .i64 r.f1.f0)).setCell ⟨L,2,none⟩ (.int .i64 r.f1.f1)).setCell ⟨L,3,none⟩ (.int .i64 r.f2.f0)).setCell ⟨L,4,none⟩ (.int .i64 r.f2.f1)).setCell ⟨L,5,none⟩ (.int .i64 r.f3.f0)).setCell ⟨L,6,none⟩ (.int .i64 r.f3.f1)):=by
 have b1:=blk_put h.lastB 0 (.int .i64 r.f0) (cs':=#[.int .i64 r.f0,.int .i64 last.f1.f0,.int .i64 last.f1.f1,.int .i64 last.f2.f0,.int .i64 last.f2.f1,.int .i64 last.f3.f0,.int .i64 last.f3.f1]) rfl
 have r1:=row_far h.row h.ne 0 (.int .i64 r.f0)
 have w1:=below_set (j:=0) (v:=.int .i64 r.f0) h.bel h.hL
 have b2:=blk_put b1 1 (.int .i64 r.f1.f0) (cs':=#[.int .i64 r.f0,.int .i64 r.f1.f0,.int .i64 last.f1.f1,.int .i64 last.f2.f0,.int .i64 last.f2.f1,.int .i64 last.f3.f0,.int .i64 last.f3.f1]) rfl
 have r2:=row_far r1 h.ne 1 (.int .i64 r.f1.f0)
 have w2:=below_set (j:=1) (v:=.int .i64 r.f1.f0) w1 h.hL
 have b3:=blk_put b2 2 (.int .i64 r.f1.f1) (cs':=#[.int .i64 r.f0,.int .i64 r.f1.f0,.int .i64 r.f1.f1,.int .i64 last.f2.f0,.int .i64 last.f2.f1,.int .i64 last.f3.f0,.int .i64 last.f3.f1]) rfl
 have r3:=row_far r2 h.ne 2 (.int .i64 r.f1.f1)
 have w3:=below_set (j:=2) (v:=.int .i64 r.f1.f1) w2 h.hL
 have b4:=blk_put b3 3 (.int .i64 r.f2.f0) (cs':=#[.int .i64 r.f0,.int .i64 r.f1.f0,.int .i64 r.f1.f1,.int .i64 r.f2.f0,.int .i64 last.f2.f1,.int .i64 last.f3.f0,.int .i64 last.f3.f1]) rfl
 have r4:=row_far r3 h.ne 3 (.int .i64 r.f2.f0)
 have w4:=below_set (j:=3) (v:=.int .i64 r.f2.f0) w3 h.hL
 have b5:=blk_put b4 4 (.int .i64 r.f2.f1) (cs':=#[.int .i64 r.f0,.int .i64 r.f1.f0,.int .i64 r.f1.f1,.int .i64 r.f2.f0,.int .i64 r.f2.f1,.int .i64 last.f3.f0,.int .i64 last.f3.f1]) rfl
 have r5:=row_far r4 h.ne 4 (.int .i64 r.f2.f1)
 have w5:=below_set (j:=4) (v:=.int .i64 r.f2.f1) w4 h.hL
 have b6:=blk_put b5 5 (.int .i64 r.f3.f0) (cs':=#[.int .i64 r.f0,.int .i64 r.f1.f0,.int .i64 r.f1.f1,.int .i64 r.f2.f0,.int .i64 r.f2.f1,.int .i64 r.f3.f0,.int .i64 last.f3.f1]) rfl
 have r6:=row_far r5 h.ne 5 (.int .i64 r.f3.f0)
 have w6:=below_set (j:=5) (v:=.int .i64 r.f3.f0) w5 h.hL
 have b7:=blk_put b6 6 (.int .i64 r.f3.f1) (cs':=#[.int .i64 r.f0,.int .i64 r.f1.f0,.int .i64 r.f1.f1,.int .i64 r.f2.f0,.int .i64 r.f2.f1,.int .i64 r.f3.f0,.int .i64 r.f3.f1]) rfl
 have r7:=row_far r6 h.ne 6 (.int .i64 r.f3.f1)
 have w7:=below_set (j:=6) (v:=.int .i64 r.f3.f1) w6 h.hL
 exact ⟨b7,(keep7 _ _ _ _ _ _ _ (blk_ne h.outB h.lastB (by decide))).trans h.outB,r7,h.ne,w7,h.hL,h.hO⟩
theorem RB.app {w0:World} {L O:Nat} {last:S32} {v:Value} {out:List S32} {W:World} (h:RB w0 L O last v out W) {w5:World} {v1:Value} {out1:List S32} (hR:Kd.R k32 32 w5 w0.heap.size (fun _=>True) v1 out1) (hb:Below w0.heap.size w0 w5) (hg:W.grownBy w5 v.ownBlock) (hat:v1.ownBlock=v.ownBlock∨∃ b,v1.ownBlock=some b∧W.heap.size≤b) :
  RB w0 L O last v1 out1 (w5.setCell ⟨O,0,none⟩ v1)∧w5.heap[O]?=some (.cells #[v] 25 (0,0)):=by
 have hO:=blk_grown h.outB hg (row_ne h.row h.outB (by decide))
 have hL:=blk_grown h.lastB hg h.ne
 have hne:some L≠v1.ownBlock:=by
  rcases hat with e|⟨b,e,hle⟩
  ·rw [e];exact h.ne
  rw [e]
  intro he
  injection he with he
  have:=blk_lt h.lastB
  omega
 exact ⟨⟨(Below.heap_setCell _ ⟨O,0,none⟩ _ _ (blk_ne hL hO (by decide))).trans hL,blk_put hO 0 _ rfl,row_far hR (row_ne hR hO (by decide)) 0 _,hne,below_set hb h.hO,h.hL,h.hO⟩,hO⟩
def SpB (x:Int):Prop:=-1152921504606846976≤x∧x≤1152921504606846976
structure S32B (r:S32):Prop where
 a0:SpB r.f1.f0
 a1:SpB r.f1.f1
 b0:SpB r.f2.f0
 b1:SpB r.f2.f1
 c0:SpB r.f3.f0
 c1:SpB r.f3.f1
set_option maxRecDepth 100000 in
set_option maxHeartbeats 4000000 in
theorem add_calls (w0:World) (L O:Nat) (last:S32) (v:Value) (out:List S32) (W:World) (m m0 m1:Int) (h:RB w0 L O last v out W) (hb:S32B last) (hm:SpB m) (hm0:SpB m0) (hm1:SpB m1) (hn:out.length≤1099511627776) :
  Calls Try.prog 14 #[.int .i64 m,.agg #[.int .i64 m0,.int .i64 m1],.pointer (some ⟨L,0,none⟩),.pointer (some ⟨O,0,none⟩)] W fun e w'=>∃ g c,e=.returned (.pointer (some ⟨g,out.length * 7,none⟩)) ∧
   RB w0 L O (addR last m m0 m1) (.slice (some ⟨g,0,none⟩) (out.length+1) c) (out++[addR last m m0 m1]) w'∧Else L O v W w'∧(v.ownBlock=some g∨W.heap.size≤g):=by
 have hu32:=Try.underlying32
 have hu34:=Try.underlying34
 obtain ⟨r,hr⟩:∃ r,r=addR last m m0 m1:=⟨_,rfl⟩
 rw [← hr]
 have HN:=Aside0.mk (next_calls last.f0 last.f1.f0 last.f1.f1 last.f2.f0 last.f2.f1 last.f3.f0 last.f3.f1 m m0 m1 · ⟨hb.a0.1,hb.a0.2,hb.a1.1,hb.a1.2,hb.b0.1,hb.b0.2,hb.b1.1,hb.b1.2,hb.c0.1,hb.c0.2,hb.c1.1,hb.c1.2,hm.1,hm.2,hm0.1,hm0.2,hm1.1,hm1.2⟩)
 have hrr:r=⟨0,⟨last.f1.f0+last.f1.f1,m⟩,⟨last.f2.f0+last.f2.f1,m+m0⟩,⟨last.f3.f0+last.f3.f1,m+m1⟩⟩:=hr
 clear hb hm hm0 hm1 hr
 have H1:=Aside0.mk (h.below (below_alloc (Below.refl _ _) (.cells #[.int .i64 m0,.int .i64 m1] 34 (0,0))))
 have E1:=Aside0.mk (show Else L O v W (W.alloc (.cells #[.int .i64 m0,.int .i64 m1] 34 (0,0))) from Else.below ⟨Nat.le_refl _,fun _ _ _ _ _=>rfl⟩ (below_alloc (Below.refl _ _) _))
 have z0:=(blk_cell H1.out.lastB 0).trans rfl
 have z1:=(blk_cell H1.out.lastB 1).trans rfl
 have z2:=(blk_cell H1.out.lastB 2).trans rfl
 have z3:=(blk_cell H1.out.lastB 3).trans rfl
 have z4:=(blk_cell H1.out.lastB 4).trans rfl
 have z5:=(blk_cell H1.out.lastB 5).trans rfl
 have z6:=(blk_cell H1.out.lastB 6).trans rfl
 have y0:(W.alloc (.cells #[.int .i64 m0,.int .i64 m1] 34 (0,0))).cell? ⟨W.heap.size,0,none⟩=some (.int .i64 m0):=(blk_cell (blk_new W _) 0).trans rfl
 have y1:(W.alloc (.cells #[.int .i64 m0,.int .i64 m1] 34 (0,0))).cell? ⟨W.heap.size,1,none⟩=some (.int .i64 m1):=(blk_cell (blk_new W _) 1).trans rfl
 clear h
 go_enter Try.func14,Try.ntmps14
 go_upto_region 2 with (go_at_call 15;(with_reducible refine (HN.out _).mono ?_);rintro e w3 ⟨rfl,hb⟩;have H3:=Aside0.mk (H1.out.below hb);have E3:=Aside0.mk (E1.out.below hb);clear hb;have f0:=blk_frozen H3.out.lastB 0;have f1:=blk_frozen H3.out.lastB 1;have f2:=blk_frozen H3.out.lastB 2;have f3:=blk_frozen H3.out.lastB 3;have f4:=blk_frozen H3.out.lastB 4;have f5:=blk_frozen H3.out.lastB 5;have f6:=blk_frozen H3.out.lastB 6;have x0:=(blk_cell H3.out.lastB 0).trans rfl;have x1:=(blk_cell H3.out.lastB 1).trans rfl;have x2:=(blk_cell H3.out.lastB 2).trans rfl;have x3:=(blk_cell H3.out.lastB 3).trans rfl;have x4:=(blk_cell H3.out.lastB 4).trans rfl;have x5:=(blk_cell H3.out.lastB 5).trans rfl;have x6:=(blk_cell H3.out.lastB 6).trans rfl)
 have H4:Aside0 (RB w0 L O r v out (((((((w3.setCell ⟨L,0,none⟩ (.int .i64 0)).setCell ⟨L,1,none⟩ (.int .i64 (last.f1.f0+last.f1.f1))).setCell ⟨L,2,none⟩ (.int .i64 m)).setCell ⟨L,3,none⟩ (.int .i64 (last.f2.f0+last.f2.f1))).setCell ⟨L,4,none⟩ (.int .i64 (m+m0))).setCell ⟨L,5,none⟩ (.int .i64 (last.f3.f0+last.f3.f1))).setCell ⟨L,6,none⟩ (.int .i64 (m+m1)))):=by
  rw [hrr]
  exact ⟨RB.put7 H3.out ⟨0,⟨last.f1.f0+last.f1.f1,m⟩,⟨last.f2.f0+last.f2.f1,m+m0⟩,⟨last.f3.f0+last.f3.f1,m+m1⟩⟩⟩
 have E4:Aside0 (Else L O v W (((((((w3.setCell ⟨L,0,none⟩ (.int .i64 0)).setCell ⟨L,1,none⟩ (.int .i64 (last.f1.f0+last.f1.f1))).setCell ⟨L,2,none⟩ (.int .i64 m)).setCell ⟨L,3,none⟩ (.int .i64 (last.f2.f0+last.f2.f1))).setCell ⟨L,4,none⟩ (.int .i64 (m+m0))).setCell ⟨L,5,none⟩ (.int .i64 (last.f3.f0+last.f3.f1))).setCell ⟨L,6,none⟩ (.int .i64 (m+m1)))):=⟨(((((((E3.out.set (Or.inl rfl) 0 _).set (Or.inl rfl) 1 _).set (Or.inl rfl) 2 _).set (Or.inl rfl) 3 _).set (Or.inl rfl) 4 _).set (Or.inl rfl) 5 _).set (Or.inl rfl) 6 _)⟩
 clear f0 f1 f2 f3 f4 f5 f6 x0 x1 x2 x3 x4 x5 x6 z0 z1 z2 z3 z4 z5 z6 y0 y1 H3 E3 H1 E1
 generalize (((((((w3.setCell ⟨L,0,none⟩ (.int .i64 0)).setCell ⟨L,1,none⟩ (.int .i64 (last.f1.f0+last.f1.f1))).setCell ⟨L,2,none⟩ (.int .i64 m)).setCell ⟨L,3,none⟩ (.int .i64 (last.f2.f0+last.f2.f1))).setCell ⟨L,4,none⟩ (.int .i64 (m+m0))).setCell ⟨L,5,none⟩ (.int .i64 (last.f3.f0+last.f3.f1))).setCell ⟨L,6,none⟩ (.int .i64 (m+m1)))=w4 at H4 E4 ⊢
 clear hrr
 have z0:=(blk_cell H4.out.lastB 0).trans rfl
 have z1:=(blk_cell H4.out.lastB 1).trans rfl
 have z2:=(blk_cell H4.out.lastB 2).trans rfl
 have z3:=(blk_cell H4.out.lastB 3).trans rfl
 have z4:=(blk_cell H4.out.lastB 4).trans rfl
 have z5:=(blk_cell H4.out.lastB 5).trans rfl
 have z6:=(blk_cell H4.out.lastB 6).trans rfl
 have y0:=(blk_cell H4.out.outB 0).trans rfl
 have kx:IntKind.i64.wrap ((out.length:Int)+1 - 1)=(out.length:Int):=by rw [IntWalk.i64_in _ (by omega)];omega
 go_upto_region 3 with (first
  | ((with_reducible refine gate_builtin (b:=.append) (xs:=#[.tmp 11,.tmp 13]) rfl ?_);at_builtin;refine Kd.R_append k32 (w0:=w0) w0.heap.size rfl (.tmp 11) (.tmp 13) 25 32 (.agg #[.int .i64 0,.int .i64 0,.int .i64 0,.int .i64 0,.int .i64 0,.int .i64 0,.int .i64 0]) 56 rfl Try.underlying25 info32 rfl (by decide) (by omega) v out r [.int .i64 r.f0,.int .i64 r.f1.f0,.int .i64 r.f1.f1,.int .i64 r.f2.f0,.int .i64 r.f2.f1,.int .i64 r.f3.f0,.int .i64 r.f3.f1] (fun _=>True) (fun _=>False) rfl rfl ?aP (fun _ hk=>hk.elim) ?aF ?aO ?aB ?aS ?aL ?_;(case aP=>exact k32_mkM _ _ _ r);(case aF=>exact fun _ _=>trivial);(case aO=>exact H4.out.row);(case aB=>exact H4.out.bel);(case aS=>exact H4.out.bel.size);(case aL=>omega);intro v1 w5 hR hb hg hat;obtain ⟨g,c,e5,_⟩:=Kd.R_form hR (by simp);subst e5;obtain ⟨h5,hO5⟩:=H4.out.app hR hb hg hat;have H5:=Aside0.mk h5;have E5:=Aside0.mk ((E4.out.grown hg).set (Or.inr rfl) 0 (.slice (some ⟨g,0,none⟩) (out++[r]).length c));have y5:=(blk_cell hO5 0).trans rfl;have f5:=blk_frozen hO5 0;have HAT:=Aside0.mk hat;clear hR hb hg hat h5 hO5))
 have hlen:(out++[r]).length=out.length+1:=by rw [List.length_append];rfl
 rw [hlen] at H5 E5
 generalize w5.setCell ⟨O,0,none⟩ (.slice (some ⟨g,0,none⟩) (out.length+1) c)=w6 at H5 E5 ⊢
 have E4s:=Aside0.mk E4.out.1
 clear H4 E4 y5 f5 z0 z1 z2 z3 z4 z5 z6 y0
 have q0:=(blk_cell H5.out.outB 0).trans rfl
 have hlt:(out.length:Int)<((out.length+1:Nat):Int):=by omega
 have hlt2:(out.length:Int)<(out.length:Int)+1:=by omega
 have hge:(0:Int)≤(out.length:Int):=by omega
 go_wp2
 go_ret
 refine ⟨g,c,rfl,H5.out,E5.out,?_⟩
 rcases HAT.out with e|⟨b,e,hle⟩
 ·exact .inl e.symm
 refine .inr (Nat.le_trans E4s.out ?_)
 have e2:g=b:=by injection e
 rw [e2];exact hle
end Go.Proofs.Ytnmphfelebkaiaa.Pr
-- shrunk
