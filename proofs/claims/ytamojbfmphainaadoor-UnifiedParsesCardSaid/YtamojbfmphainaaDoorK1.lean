/-
Several plain texts in one.
-/
import Derived.StillTailTactics
import Derived.Lib.SlicesS
import Derived.Test.YtamojbfmphainaaDoorK0
import Derived.Outline
import Derived.Lib.OthersKept
import Derived.Lib.FrozenHead2
import Derived.Test.YtamojbfmphainaaDoorGShelf
set_option linter.unusedVariables false
set_option linter.unusedSimpArgs false
/-
unified's reader: the line that says that the one ahead of it has no end.
-/
namespace Go.Proofs.YtamojbfmphainaaDoor.Pr
open Go.RowKit Go.Proofs.YtamojbfmphainaaDoorW.PrintWords Go.Proofs.YtamojbfmphainaaDoorW.PrintLast Go.Proofs.YtamojbfmphainaaDoorW.PrintMore
def openB:ByteArray:=⟨#[92,32,78,111,32,110,101,119,108,105,110,101,32,97,116,32,101,110,100,32,111,102,32,102,105,108,101,10]⟩
theorem open_toList:openB.toList=[92,32,78,111,32,110,101,119,108,105,110,101,32,97,116,32,101,110,100,32,111,102,32,102,105,108,101,10]:=by rw [openB,Lib.toList_data]
theorem open_ne {s:ByteArray} (h:s≠openB):¬ s.toList=[92,32,78,111,32,110,101,119,108,105,110,101,32,97,116,32,101,110,100,32,111,102,32,102,105,108,101,10]:=by
 rw [← open_toList,str_iff]
 exact h
def chopB (s:ByteArray):ByteArray:=⟨(Lib.trimSuffix s.data.toList [10]).toArray⟩
theorem trim_calls (s:ByteArray) (w:World) (hs:s.size≤9223372036854775807):Calls Tryd.prog 61 #[.string s,.string ⟨#[10]⟩] w fun e w'=>e=.returned (.string (chopB s))∧w'=w :=
 Tryd.strings_TrimSuffix s ⟨#[10]⟩ w hs
theorem RBox.inner {w:World} {g gl n cl:Nat} {an bn:Int} {bare:Bool} {fn:Nat} {l l':List S41} {W w1:World} (h:RBox w g (.slice (some ⟨gl,0,none⟩) n cl) an bn bare fn l W) {row:Option Nat} (hg:W.grownBy w1 row)
  (hty:∀ k,row=some k→∃ cs,W.heap[k]?=some (.cells cs 9 (0,0))) (hnew:∀ k,row=some k→w.heap.size≤k) (hS:Kd.S k41 41 w1 w.heap.size (fun _=>True) (.slice (some ⟨gl,0,none⟩) n cl) l') :
  RBox w g (.slice (some ⟨gl,0,none⟩) n cl) an bn bare fn l' w1 :=
 ⟨blk_grown h.box hg (fun he=>by obtain ⟨cs,hc⟩:=hty g he.symm;exact blk_ne h.box hc (by decide) rfl),hS,keep_grown h.bel hg hnew⟩
set_option maxRecDepth 100000 in
set_option maxHeartbeats 4000000 in
theorem cut_no (w:World) (g:Nat) (v:Value) (an bn:Int) (bare:Bool) (fn:Nat) (l:List S41) (s:ByteArray) (W:World) (h:RBox w g v an bn bare fn l W) (hs:s≠openB∨bare=true) :
  Calls Tryd.prog 32 #[.pointer (some ⟨g,0,none⟩),.string s] W fun e w'=>e=.returned (.bool false)∧w'=W:=by
 have H:=Aside0.mk h
 have hz3:W.cell? ⟨g,3,none⟩=some (.bool bare):=(blk_cell h.box 3).trans rfl
 clear h
 by_cases c:s=openB
 ·obtain rfl:bare=true:=hs.resolve_left (fun e=>e c)
  subst c
  clear hs
  unfold openB
  go_enter Tryd.func32,Tryd.ntmps32
  go_wp2
  go_ret
  exact ⟨rfl,rfl⟩
 ·have q1:(s.toList=[92,32,78,111,32,110,101,119,108,105,110,101,32,97,116,32,101,110,100,32,111,102,32,102,105,108,101,10])=False:=eq_false (open_ne c)
  clear hs c
  go_enter Tryd.func32,Tryd.ntmps32
  go_wp2
  go_ret
  exact ⟨rfl,rfl⟩
def gcut_4.T4:Bool × List (List Nat × List Nat):=(true,[([],[]),([0],[0]),([1],[1]),([2],[2]),([],[]),([4],[4]),([5],[5]),([6],[6]),([7],[7]),([8],[8]),([],[]),([10],[10]),([11],[11]),([12],[12]),([],[]),([14],[14]),([15],[15]),([16],[16]),([17],[17]),([18],[18]),([13,19],[13,19]),([20],[20]),([21],[21]),([3,9,0,1,2,3,4,5,6,7,8,9,10,11,12,13,14,15,16,17,18,19,20,21,22],[3,9]),([23,22,22,0,1,2,3,4,5,6,7,8,9,10,11,12,13,14,15,16,17,18,19,20,21,22],[22,23])])
def gcut_4.B4:List Nat:=[0,1,3,7,0,16,48,112,240,496,0,1024,3072,7168,0,16384,49152,114688,245760,507904,1047552,2096128,4193280,8388607,16777215]
theorem gcut_4.tab4:rtab .any (opsOf Tryd.f32 4)=gcut_4.T4:=by kernel_rfl
theorem gcut_4.bits4:waitsOk gcut_4.T4.2 gcut_4.B4=true:=by kernel_rfl
set_option maxRecDepth 100000 in
set_option maxHeartbeats 4000000 in
theorem cut_yes (w:World) (g:Nat) (v:Value) (an bn:Int) (fn:Nat) (l:List S41) (m q:Nat) (x:S41) (W:World) (h:RBox w g v an bn false fn l W)
  (hm:l.length=m+1) (hx:l[m]?=some x) (hq:x.f4.length=q+1) (hb:l.length≤1099511627776) (hb4:x.f4.length≤1099511627776) (hs:(rdOf ByteArray.empty x.f4 q).size≤1099511627776) :
  Calls Tryd.prog 32 #[.pointer (some ⟨g,0,none⟩),.string openB] W fun e w'=>e=.returned (.bool true) ∧
   RBox w g v an bn true fn (l.set m { x with f4:=x.f4.set q (chopB (rdOf ByteArray.empty x.f4 q)) }) w':=by
 have H:=Aside0.mk h
 have hz3:W.cell? ⟨g,3,none⟩=some (.bool false):=(blk_cell h.box 3).trans rfl
 obtain ⟨gl,cl,rfl,hgl,_,_⟩:=Kd.S_form h.row (by omega)
 have hz0:W.cell? ⟨g,0,none⟩=some (.slice (some ⟨gl,0,none⟩) l.length cl):=(blk_cell h.box 0).trans rfl
 have HL:=Aside0.mk hm
 have HX0:=Aside0.mk hx
 have HQ:=Aside0.mk hq
 clear h hx hq
 unfold openB
 go_enter Tryd.func32,Tryd.ntmps32
 go_upto_region 3 with (fail)
 have k1:IntKind.i64.wrap ((l.length:Int) - 1)=(m:Int):=by rw [IntWalk.i64_in _ (by omega)];omega
 go_quiet (fail)
 go_upto_region 4 with (fail)
 clear k1 hz0 hz3 hm
 have HX:=Aside0.mk ((H.out.below (pw_below_drewN (Below.refl _ _) nq)).drew)
 obtain ⟨oki,c,hcl,hM,hcc,hoki,hB⟩:=Kd.S_borrow HX.out.row z41 (m:Int) (by omega) (by have:=HL.out;omega)
 have hxd:l.getD (m:Int).toNat z41=x:=by rw [Int.toNat_natCast,List.getD_eq_getElem?_getD,HX0.out];rfl
 rw [hxd] at hM
 obtain ⟨v4,rfl,hR⟩:=k41_openM hM
 obtain ⟨g4,c4,rfl,hg4,_,cs4,hcs4⟩:=Kd.R_form hR (by have:=HQ.out;omega)
 have z4:(W.drewN nq).drew.cell? ⟨gl,m * 5+4,none⟩=some (.slice (some ⟨g4,0,none⟩) (q+1) c4):=by have h_:=hcc 4 _ rfl;rw [HQ.out] at h_;simpa [Addr.add,k41,Kd.iso,Kd.pair,Kd.int,Kd.scalar,Kd.slice] using h_
 have z5:(W.drewN nq).drew.cell? ⟨g4,q,none⟩=some (.string (rdOf ByteArray.empty x.f4 q)):=by have h_:=(Kd.R_celln ByteArray.empty hR (q:Int) (by omega) (by have:=HQ.out;omega)).1;rwa [Int.toNat_natCast] at h_
 have z6:(W.drewN nq).drew.frozen? ⟨g4,q,none⟩=false:=by have h_:=(Kd.R_celln ByteArray.empty hR (q:Int) (by omega) (by have:=HQ.out;omega)).2;rwa [Int.toNat_natCast] at h_
 have HB:=Aside0.mk @hB
 have HR:=Aside0.mk hR
 have HCS:=Aside0.mk hcs4
 have HK:=Aside0.mk (hoki g4 (hR.1 g4 (by simp [Value.ownBlock])))
 have HSZ:=Aside0.mk hs
 have k2:IntKind.i64.wrap ((q:Int)+1 - 1)=(q:Int):=by rw [IntWalk.i64_in _ (by have:=HQ.out;omega)];omega
 have k3:IntKind.i64.wrap (((q+1:Nat):Int) - 1)=(q:Int):=by rw [IntWalk.i64_in _ (by have:=HQ.out;omega)];omega
 have hqb:q≤1099511627776:=by have:=HQ.out;omega
 have k4:wrap64 (q:Int)=(q:Int):=by unfold wrap64;omega
 have k5:((q:Int)<(q:Int)+1)=True:=eq_true (by omega)
 clear hM hR hcc hoki hB hcl hxd hb4 hs hcs4
 refine start_ (n:=25) (S:=fun w'=>w'.cell? ⟨gl,m * 5+4,none⟩=some (.slice (some ⟨g4,0,none⟩) (q+1) c4)∧w'.cell? ⟨g4,q,none⟩=some (.string (rdOf ByteArray.empty x.f4 q))) (ds:=[24]) #[false,false,false,false,false,false,false,false,false,false,false,false,false,false,false,false,false,false,false,false,false,false,false,false,false] (by kernel_rfl) rfl rfl ⟨z4,z5⟩ (fun hHeld=>?_)
 refine with_tabW gcut_4.tab4 gcut_4.bits4 (fun HT_ HW_=>?_)
 generalize (W.drewN nq).drew=W2 at HX z4 z5 z6 HB HR HCS hHeld ⊢
 refine pure_ (i:=0) (N:=some 25) (v:=?_) (a':=?_) #[true,false,false,false,false,false,false,false,false,false,false,false,false,false,false,false,false,false,false,false,false,false,false,false,false] rfl rfl (any_of HT_.out (by kernel_rfl)) (fun _ _ _ h=>h) (Or.inl ⟨by rfl,?_⟩) ?_ ?_
 rotate_left
 ·intro w'
  go_simp
  with_reducible rfl
 rotate_left
 ·simp only [Act.put,List.setIfInBounds_toArray,List.set_cons_zero,List.set_cons_succ,i64_w,i32_w]
  rfl
 refine pure_ (i:=1) (N:=some 26) (v:=?_) (a':=?_) #[true,true,false,false,false,false,false,false,false,false,false,false,false,false,false,false,false,false,false,false,false,false,false,false,false] rfl rfl (any_of HT_.out (by kernel_rfl)) (fun _ _ _ h=>h) (Or.inl ⟨by rfl,?_⟩) ?_ ?_
 rotate_left
 ·intro w'
  go_simp
  with_reducible rfl
 rotate_left
 ·simp only [Act.put,List.setIfInBounds_toArray,List.set_cons_zero,List.set_cons_succ,i64_w,i32_w]
  rfl
 refine pure_ (i:=2) (N:=some 27) (v:=?_) (a':=?_) #[true,true,true,false,false,false,false,false,false,false,false,false,false,false,false,false,false,false,false,false,false,false,false,false,false] rfl rfl (any_of HT_.out (by kernel_rfl)) (fun _ _ _ h=>h) (Or.inl ⟨by rfl,?_⟩) ?_ ?_
 rotate_left
 ·intro w'
  go_simp
  with_reducible rfl
 rotate_left
 ·simp only [Act.put,List.setIfInBounds_toArray,List.set_cons_zero,List.set_cons_succ,i64_w,i32_w]
  rfl
 refine pure_ (i:=4) (N:=some 29) (v:=?_) (a':=?_) #[true,true,true,false,true,false,false,false,false,false,false,false,false,false,false,false,false,false,false,false,false,false,false,false,false] rfl rfl (any_of HT_.out (by kernel_rfl)) (fun _ _ _ h=>h) (Or.inl ⟨by rfl,?_⟩) ?_ ?_
 rotate_left
 ·intro w'
  go_simp
  with_reducible rfl
 rotate_left
 ·simp only [Act.put,List.setIfInBounds_toArray,List.set_cons_zero,List.set_cons_succ,i64_w,i32_w]
  rfl
 refine pure_ (i:=5) (N:=some 30) (v:=?_) (a':=?_) #[true,true,true,false,true,true,false,false,false,false,false,false,false,false,false,false,false,false,false,false,false,false,false,false,false] rfl rfl (any_of HT_.out (by kernel_rfl)) (fun _ _ _ h=>h) (Or.inl ⟨by rfl,?_⟩) ?_ ?_
 rotate_left
 ·intro w'
  go_simp
  with_reducible rfl
 rotate_left
 ·simp only [Act.put,List.setIfInBounds_toArray,List.set_cons_zero,List.set_cons_succ,i64_w,i32_w]
  rfl
 refine pure_ (i:=6) (N:=some 31) (v:=?_) (a':=?_) #[true,true,true,false,true,true,true,false,false,false,false,false,false,false,false,false,false,false,false,false,false,false,false,false,false] rfl rfl (any_of HT_.out (by kernel_rfl)) (fun _ _ _ h=>h) (Or.inl ⟨by rfl,?_⟩) ?_ ?_
 rotate_left
 ·intro w'
  go_simp
  with_reducible rfl
 rotate_left
 ·simp only [Act.put,List.setIfInBounds_toArray,List.set_cons_zero,List.set_cons_succ,i64_w,i32_w]
  rfl
 refine pure_ (i:=10) (N:=some 35) (v:=?_) (a':=?_) #[true,true,true,false,true,true,true,false,false,false,true,false,false,false,false,false,false,false,false,false,false,false,false,false,false] rfl rfl (any_of HT_.out (by kernel_rfl)) (fun _ _ _ h=>h) (Or.inl ⟨by rfl,?_⟩) ?_ ?_
 rotate_left
 ·intro w'
  go_simp
  with_reducible rfl
 rotate_left
 ·simp only [Act.put,List.setIfInBounds_toArray,List.set_cons_zero,List.set_cons_succ,i64_w,i32_w]
  rfl
 refine pure_ (i:=11) (N:=some 36) (v:=?_) (a':=?_) #[true,true,true,false,true,true,true,false,false,false,true,true,false,false,false,false,false,false,false,false,false,false,false,false,false] rfl rfl (any_of HT_.out (by kernel_rfl)) (fun _ _ _ h=>h) (Or.inl ⟨by rfl,?_⟩) ?_ ?_
 rotate_left
 ·intro w'
  go_simp
  with_reducible rfl
 rotate_left
 ·simp only [Act.put,List.setIfInBounds_toArray,List.set_cons_zero,List.set_cons_succ,i64_w,i32_w]
  rfl
 refine pure_ (i:=12) (N:=some 37) (v:=?_) (a':=?_) #[true,true,true,false,true,true,true,false,false,false,true,true,true,false,false,false,false,false,false,false,false,false,false,false,false] rfl rfl (any_of HT_.out (by kernel_rfl)) (fun _ _ _ h=>h) (Or.inl ⟨by rfl,?_⟩) ?_ ?_
 rotate_left
 ·intro w'
  go_simp
  with_reducible rfl
 rotate_left
 ·simp only [Act.put,List.setIfInBounds_toArray,List.set_cons_zero,List.set_cons_succ,i64_w,i32_w]
  rfl
 refine pure_ (i:=14) (N:=some 39) (v:=?_) (a':=?_) #[true,true,true,false,true,true,true,false,false,false,true,true,true,false,true,false,false,false,false,false,false,false,false,false,false] rfl rfl (any_of HT_.out (by kernel_rfl)) (fun _ _ _ h=>h) (Or.inl ⟨by rfl,?_⟩) ?_ ?_
 rotate_left
 ·intro w'
  go_simp
  with_reducible rfl
 rotate_left
 ·simp only [Act.put,List.setIfInBounds_toArray,List.set_cons_zero,List.set_cons_succ,i64_w,i32_w]
  rfl
 refine pure_ (i:=15) (N:=some 40) (v:=?_) (a':=?_) #[true,true,true,false,true,true,true,false,false,false,true,true,true,false,true,true,false,false,false,false,false,false,false,false,false] rfl rfl (any_of HT_.out (by kernel_rfl)) (fun _ _ _ h=>h) (Or.inl ⟨by rfl,?_⟩) ?_ ?_
 rotate_left
 ·intro w'
  go_simp
  with_reducible rfl
 rotate_left
 ·simp only [Act.put,List.setIfInBounds_toArray,List.set_cons_zero,List.set_cons_succ,i64_w,i32_w]
  rfl
 refine pure_ (i:=16) (N:=some 41) (v:=?_) (a':=?_) #[true,true,true,false,true,true,true,false,false,false,true,true,true,false,true,true,true,false,false,false,false,false,false,false,false] rfl rfl (any_of HT_.out (by kernel_rfl)) (fun _ _ _ h=>h) (Or.inl ⟨by rfl,?_⟩) ?_ ?_
 rotate_left
 ·intro w'
  go_simp
  with_reducible rfl
 rotate_left
 ·simp only [Act.put,List.setIfInBounds_toArray,List.set_cons_zero,List.set_cons_succ,i64_w,i32_w]
  rfl
 refine take_ (i:=3) (N:=some 28) (v:=?_) (a':=?_) #[true,true,true,true,true,true,true,false,false,false,true,true,true,false,true,true,true,false,false,false,false,false,false,false,false] rfl rfl (take_ofW HT_.out HW_.out (by kernel_rfl)) (fun _ _ _ h=>h) (Or.inl ⟨by rfl,?_⟩) hHeld ?_ ?_
 rotate_left
 ·rintro w' ⟨s0,s1⟩
  go_simp
  with_reducible rfl
 rotate_left
 ·simp only [Act.put,List.setIfInBounds_toArray,List.set_cons_zero,List.set_cons_succ,i64_w,i32_w]
  rfl
 refine take_ (i:=7) (N:=some 32) (v:=?_) (a':=?_) #[true,true,true,true,true,true,true,true,false,false,true,true,true,false,true,true,true,false,false,false,false,false,false,false,false] rfl rfl (take_ofW HT_.out HW_.out (by kernel_rfl)) (fun _ _ _ h=>h) (Or.inl ⟨by rfl,?_⟩) hHeld ?_ ?_
 rotate_left
 ·rintro w' ⟨s0,s1⟩
  go_simp
  with_reducible rfl
 rotate_left
 ·simp only [Act.put,List.setIfInBounds_toArray,List.set_cons_zero,List.set_cons_succ,i64_w,i32_w]
  rfl
 refine pure_ (i:=8) (N:=some 33) (v:=?_) (a':=?_) #[true,true,true,true,true,true,true,true,true,false,true,true,true,false,true,true,true,false,false,false,false,false,false,false,false] rfl rfl (any_of HT_.out (by kernel_rfl)) (fun _ _ _ h=>h) (Or.inl ⟨by rfl,?_⟩) ?_ ?_
 rotate_left
 ·intro w'
  go_simp
  with_reducible rfl
 rotate_left
 ·simp only [Act.put,List.setIfInBounds_toArray,List.set_cons_zero,List.set_cons_succ,i64_w,i32_w]
  rfl
 refine pure_ (i:=9) (N:=some 34) (v:=?_) (a':=?_) #[true,true,true,true,true,true,true,true,true,true,true,true,true,false,true,true,true,false,false,false,false,false,false,false,false] rfl rfl (any_of HT_.out (by kernel_rfl)) (fun _ _ _ h=>h) (Or.inl ⟨by rfl,?_⟩) ?_ ?_
 rotate_left
 ·intro w'
  go_simp
  with_reducible rfl
 rotate_left
 ·simp only [Act.put,List.setIfInBounds_toArray,List.set_cons_zero,List.set_cons_succ,i64_w,i32_w]
  rfl
 refine take_ (i:=13) (N:=some 38) (v:=?_) (a':=?_) #[true,true,true,true,true,true,true,true,true,true,true,true,true,true,true,true,true,false,false,false,false,false,false,false,false] rfl rfl (take_ofW HT_.out HW_.out (by kernel_rfl)) (fun _ _ _ h=>h) (Or.inl ⟨by rfl,?_⟩) hHeld ?_ ?_
 rotate_left
 ·rintro w' ⟨s0,s1⟩
  go_simp
  with_reducible rfl
 rotate_left
 ·simp only [Act.put,List.setIfInBounds_toArray,List.set_cons_zero,List.set_cons_succ,i64_w,i32_w]
  rfl
 refine take_ (i:=17) (N:=some 42) (v:=?_) (a':=?_) #[true,true,true,true,true,true,true,true,true,true,true,true,true,true,true,true,true,true,false,false,false,false,false,false,false] rfl rfl (take_ofW HT_.out HW_.out (by kernel_rfl)) (fun _ _ _ h=>h) (Or.inl ⟨by rfl,?_⟩) hHeld ?_ ?_
 rotate_left
 ·rintro w' ⟨s0,s1⟩
  go_simp
  with_reducible rfl
 rotate_left
 ·simp only [Act.put,List.setIfInBounds_toArray,List.set_cons_zero,List.set_cons_succ,i64_w,i32_w]
  rfl
 refine pure_ (i:=18) (N:=some 43) (v:=?_) (a':=?_) #[true,true,true,true,true,true,true,true,true,true,true,true,true,true,true,true,true,true,true,false,false,false,false,false,false] rfl rfl (any_of HT_.out (by kernel_rfl)) (fun _ _ _ h=>h) (Or.inl ⟨by rfl,?_⟩) ?_ ?_
 rotate_left
 ·intro w'
  go_simp
  with_reducible rfl
 rotate_left
 ·simp only [Act.put,List.setIfInBounds_toArray,List.set_cons_zero,List.set_cons_succ,i64_w,i32_w]
  rfl
 refine pure_ (i:=19) (N:=some 44) (v:=?_) (a':=?_) #[true,true,true,true,true,true,true,true,true,true,true,true,true,true,true,true,true,true,true,true,false,false,false,false,false] rfl rfl (any_of HT_.out (by kernel_rfl)) (fun _ _ _ h=>h) (Or.inl ⟨by rfl,?_⟩) ?_ ?_
 rotate_left
 ·intro w'
  go_simp
  with_reducible rfl
 rotate_left
 ·simp only [Act.put,List.setIfInBounds_toArray,List.set_cons_zero,List.set_cons_succ,i64_w,i32_w]
  rfl
 refine pure_ (i:=20) (N:=some 45) (v:=?_) (a':=?_) #[true,true,true,true,true,true,true,true,true,true,true,true,true,true,true,true,true,true,true,true,true,false,false,false,false] rfl rfl (any_of HT_.out (by kernel_rfl)) (fun _ _ _ h=>h) (Or.inl ⟨by rfl,?_⟩) ?_ ?_
 rotate_left
 ·intro w'
  go_simp
  with_reducible rfl
 rotate_left
 ·simp only [Act.put,List.setIfInBounds_toArray,List.set_cons_zero,List.set_cons_succ,i64_w,i32_w]
  rfl
 refine take_ (i:=21) (N:=some 46) (v:=?_) (a':=?_) #[true,true,true,true,true,true,true,true,true,true,true,true,true,true,true,true,true,true,true,true,true,true,false,false,false] rfl rfl (take_ofW HT_.out HW_.out (by kernel_rfl)) (fun _ _ _ h=>h) (Or.inl ⟨by rfl,?_⟩) hHeld ?_ ?_
 rotate_left
 ·rintro w' ⟨s0,s1⟩
  go_simp
  with_reducible rfl
 rotate_left
 ·simp only [Act.put,List.setIfInBounds_toArray,List.set_cons_zero,List.set_cons_succ,i64_w,i32_w]
  rfl
 refine one_ (i:=22) (N:=some 47) #[true,true,true,true,true,true,true,true,true,true,true,true,true,true,true,true,true,true,true,true,true,true,true,false,false] rfl rfl (one_of HT_.out (by kernel_rfl)) (by decide) (fun K hK=>?_)
 refine goes_ Tryd.func61 (by kernel_rfl) rfl #[.string (rdOf ByteArray.empty x.f4 q),.string ⟨#[10]⟩] (by rfl) rfl rfl (by simp only [List.map_toArray,List.map_cons,List.map_nil];rfl) ?_
 with_reducible refine (trim_calls (rdOf ByteArray.empty x.f4 q) _ (by have:=HSZ.out;omega)).mono ?_
 rintro e w3 ⟨rfl,rfl⟩
 refine ⟨_,rfl,?_⟩
 refine hK.out _ _ ⟨z4,z5⟩ (fun hHeld=>?_)
 clear hK K
 refine norm_ (a':=?_) ?_ ?_
 rotate_left
 ·show Act.put _ (some 47) _=_
  simp only [Act.put,List.setIfInBounds_toArray,List.set_cons_zero,List.set_cons_succ,i64_w,i32_w]
  rfl
 refine pure_ (i:=23) (N:=some 48) (v:=?_) (a':=?_) #[true,true,true,true,true,true,true,true,true,true,true,true,true,true,true,true,true,true,true,true,true,true,true,true,false] rfl rfl (any_of HT_.out (by kernel_rfl)) (fun _ _ _ h=>h) (Or.inl ⟨by rfl,?_⟩) ?_ ?_
 rotate_left
 ·intro w'
  go_simp
  with_reducible rfl
 rotate_left
 ·simp only [Act.put,List.setIfInBounds_toArray,List.set_cons_zero,List.set_cons_succ,i64_w,i32_w]
  rfl
 refine last_ (i:=24) (N:=none) #[true,true,true,true,true,true,true,true,true,true,true,true,true,true,true,true,true,true,true,true,true,true,true,true,true] rfl rfl (one_of HT_.out (by kernel_rfl)) (by decide) (fun K hK=>?_)
 refine skip_ (w1:=?_) (by rfl) rfl ?_ ?_
 rotate_left
 ·go_simp
  rfl
 refine hK.out _ _ ?_
 clear hK K
 refine done_ (done_of HT_.out (by kernel_rfl)) ?_

 have HY:RBox w g (.slice (some ⟨gl,0,none⟩) l.length cl) an bn false fn (l.set m { x with f4:=x.f4.set q (chopB (rdOf ByteArray.empty x.f4 q)) }) (w3.setCell ⟨g4,q,none⟩ (.string (chopB (rdOf ByteArray.empty x.f4 q)))):=by
  have hp:=Kd.R_putg HR.out (q:Int) (chopB (rdOf ByteArray.empty x.f4 q))
  rw [Int.toNat_natCast] at hp
  refine HX.out.inner hp.2 (fun k hk=>?_) (fun k hk=>?_) ?_
  ·obtain rfl:=Option.some.inj hk;exact ⟨_,HCS.out⟩
  ·obtain rfl:=Option.some.inj hk;exact hg4
  ·have h1:Kd.S k41 41 _ w.heap.size (fun _=>True) (.slice (some ⟨gl,0,none⟩) l.length cl) (l.set (m:Int).toNat { x with f4:=x.f4.set q (chopB (rdOf ByteArray.empty x.f4 q)) }):=HB.out hp.2 (fun k hk=>by obtain rfl:=Option.some.inj hk;exact HR.out.1 _ (by simp [Value.ownBlock])) (by
    refine k41_mkM _ _ _ { x with f4:=x.f4.set q (chopB (rdOf ByteArray.empty x.f4 q)) } ?_
    exact hp.1)
   rwa [Int.toNat_natCast] at h1
 have HY2:=Aside0.mk HY
 have z3:=(blk_cell HY.box 3).trans rfl
 have z3f:=blk_frozen HY.box 3
 clear HY z4 z5 z6 hHeld
 generalize w3.setCell ⟨g4,q,none⟩ (.string (chopB (rdOf ByteArray.empty x.f4 q)))=W5 at HY2 z3 z3f ⊢
 go_wp2
 go_ret
 exact ⟨rfl,HY2.out.bare_ true⟩
end Go.Proofs.YtamojbfmphainaaDoor.Pr
-- shrunk
/-
unified's reader: a head.
-/
namespace Go.Proofs.YtamojbfmphainaaDoor.Pr
open Go.RowKit Go.Proofs.YtamojbfmphainaaDoorW.PrintWords Go.Proofs.YtamojbfmphainaaDoorW.PrintLast Go.Proofs.YtamojbfmphainaaDoorW.PrintMore
def preB (s:ByteArray) (p:List UInt8):ByteArray:=⟨(Lib.trimPrefix s.data.toList p).toArray⟩
def sufB (s:ByteArray) (p:List UInt8):ByteArray:=⟨(Lib.trimSuffix s.data.toList p).toArray⟩
theorem preB_size (s:ByteArray) (p:List UInt8):(preB s p).size≤s.size:=by
 show (Lib.trimPrefix s.data.toList p).toArray.size≤s.data.size
 rw [List.size_toArray,← Array.length_toList]
 unfold Lib.trimPrefix
 split
 ·rw [List.length_drop];omega
 ·exact Nat.le_refl _
theorem sufB_size (s:ByteArray) (p:List UInt8):(sufB s p).size≤s.size:=by
 show (Lib.trimSuffix s.data.toList p).toArray.size≤s.data.size
 rw [List.size_toArray,← Array.length_toList]
 unfold Lib.trimSuffix
 split
 ·rw [List.length_take];exact Nat.min_le_right _ _
 ·exact Nat.le_refl _
def headT (s:ByteArray):ByteArray:=sufB (preB s [64,64,32,45]) [32,64,64,10]
def headB (s:ByteArray):Option S41 :=
 if Lib.hasPrefix s.data.toList [64,64,32,45]=true∧Lib.hasSuffix (preB s [64,64,32,45]).data.toList [32,64,64,10]=true∧cutIs (headT s) [32,43]=true then
  match sideB (cutA (headT s) [32,43]),sideB (cutC (headT s) [32,43]) with
  | some p,some q=>some ⟨p.1,p.2,q.1,q.2,[]⟩
  | _,_=>none
 else none
def HeadEnd (w:World) (g:Nat) (l:List S41) (s:ByteArray) (e:Ending) (w':World):Prop :=
 e=.returned (.bool (headB s).isSome)∧Keep1 w g w'∧∀ h,headB s=some h→∃ v,RBox w g v h.f1 h.f3 true (nextF h.f1 h.f3) (l++[h]) w'
theorem RBox.grow {w:World} {g:Nat} {v v1:Value} {an bn:Int} {bare:Bool} {fn:Nat} {l l':List S41} {W w1:World} (h:RBox w g v an bn bare fn l W) (hg:W.grownBy w1 v.ownBlock)
  (hS:Kd.S k41 41 w1 w.heap.size (fun _=>True) v1 l') (hb:Below w.heap.size W w1) :
  w1.heap[g]?=some (.cells #[v,.int .i64 an,.int .i64 bn,.bool bare,.func (.func fn) #[.pointer (some ⟨g,0,none⟩)] #[]] 57 (0,0))∧RBox w g v1 an bn bare fn l' (w1.setCell ⟨g,0,none⟩ v1):=by
 have hbx:=blk_grown h.box hg (Kd.S_ne h.row h.box (by decide))
 exact ⟨hbx,⟨blk_put hbx 0 _ rfl,Kd.S_set hS hbx (by intro q hq;simp [k41,Kd.iso,Kd.pair,Kd.int,Kd.scalar,Kd.slice,Kd.string] at hq;rcases hq with rfl|rfl<;>decide) 0 v1,(keep_below' h.bel hb (Nat.le_refl _)).set_ 0 v1⟩⟩
theorem none_of {α:Type} {o:Option α} (h:false=o.isSome):o=none:=by
 cases o with
 | none=>rfl
 | some x=>cases h
theorem prefix_calls (s p:ByteArray) (w:World):Calls Tryd.prog 75 #[.string s,.string p] w fun e w'=>e=.returned (.tuple #[.string (preB s p.data.toList),.bool (Lib.hasPrefix s.data.toList p.data.toList)])∧w'=w:=Tryd.strings_CutPrefix s p w
theorem suffix_calls (s p:ByteArray) (w:World) (hs:s.size≤4000000000):Calls Tryd.prog 76 #[.string s,.string p] w fun e w'=>e=.returned (.tuple #[.string (sufB s p.data.toList),.bool (Lib.hasSuffix s.data.toList p.data.toList)])∧w'=w:=Tryd.strings_CutSuffix s p w (by omega)
set_option maxRecDepth 100000 in
set_option maxHeartbeats 8000000 in
theorem head_calls (w:World) (g:Nat) (v:Value) (an bn:Int) (bare:Bool) (fn:Nat) (l:List S41) (s:ByteArray) (W:World) (h:RBox w g v an bn bare fn l W) (hL:LaidU W) (hs:s.size≤4000000000) (hl:l.length≤1099511627776) :
  Calls Tryd.prog 60 #[.pointer (some ⟨g,0,none⟩),.string s] W (HeadEnd w g l s):=by
 have H:=Aside0.mk h
 have HL:=Aside0.mk hL
 obtain ⟨t1,ht1⟩:∃ t,t=preB s [64,64,32,45]:=⟨_,rfl⟩
 obtain ⟨t2,ht2⟩:∃ t,t=headT s:=⟨_,rfl⟩
 obtain ⟨x,hx⟩:∃ x,x=cutA t2 [32,43]:=⟨_,rfl⟩
 obtain ⟨y,hy⟩:∃ y,y=cutC t2 [32,43]:=⟨_,rfl⟩
 obtain ⟨z1,hz1⟩:∃ z,z=Lib.hasPrefix s.data.toList [64,64,32,45]:=⟨_,rfl⟩
 obtain ⟨z2,hz2⟩:∃ z,z=Lib.hasSuffix t1.data.toList [32,64,64,10]:=⟨_,rfl⟩
 obtain ⟨z3,hz3⟩:∃ z,z=cutIs t2 [32,43]:=⟨_,rfl⟩
 obtain ⟨z4,hz4⟩:∃ z,z=(sideB x).isSome:=⟨_,rfl⟩
 obtain ⟨z5,hz5⟩:∃ z,z=(sideB y).isSome:=⟨_,rfl⟩
 have hs1:t1.size≤4000000000:=by rw [ht1];exact Nat.le_trans (preB_size _ _) hs
 have hs2:t2.size≤4000000000:=by rw [ht2,headT,← ht1];exact Nat.le_trans (sufB_size _ _) hs1
 have hs3:x.size≤4000000000:=by rw [hx];exact Nat.le_trans (cutA_size _ _) hs2
 have hs4:y.size≤4000000000:=by rw [hy];exact Nat.le_trans (cutC_size _ _) hs2
 have HD:=Aside0.mk (show headB s=if z1=true∧z2=true∧z3=true then (match sideB x,sideB y with|some p,some q=>some ⟨p.1,p.2,q.1,q.2,[]⟩|_,_=>none) else none by rw [headB,← ht1,← ht2,← hx,← hy,← hz1,← hz2,← hz3])
 have C1:=Aside0.mk (show ∀ W,Calls Tryd.prog 75 #[.string s,.string ⟨#[64,64,32,45]⟩] W fun e w'=>e=.returned (.tuple #[.string t1,.bool z1])∧w'=W by intro W;rw [ht1,hz1];exact prefix_calls s ⟨#[64,64,32,45]⟩ W)
 have C2:=Aside0.mk (show ∀ W,Calls Tryd.prog 76 #[.string t1,.string ⟨#[32,64,64,10]⟩] W fun e w'=>e=.returned (.tuple #[.string t2,.bool z2])∧w'=W by intro W;rw [hz2,ht2,headT,← ht1];exact suffix_calls t1 ⟨#[32,64,64,10]⟩ W hs1)
 have C3:=Aside0.mk (show ∀ W,LaidU W→Calls Tryd.prog 77 #[.string t2,.string ⟨#[32,43]⟩] W fun e w'=>e=.returned (.tuple #[.string x,.string y,.bool z3])∧Below W.heap.size W w' by intro W hW;rw [hx,hy,hz3];exact cut_calls t2 ⟨#[32,43]⟩ hs2 W hW)
 have C4:=Aside0.mk (side_calls x hs3)
 have C5:=Aside0.mk (side_calls y hs4)
 have HZ4:=Aside0.mk hz4
 have HZ5:=Aside0.mk hz5
 clear h hL hs ht1 ht2 hx hy hz1 hz2 hz3 hz4 hz5 hs1 hs2 hs3 hs4
 go_enter Tryd.func60,Tryd.ntmps60
 go_upto_region 6 with (first
  | (go_at_call 75;(with_reducible refine (C1.out _).mono ?_);rintro e w0 ⟨rfl,rfl⟩)
  | (go_at_call 76;(with_reducible refine (C2.out _).mono ?_);rintro e w0 ⟨rfl,rfl⟩)
  | (go_at_call 77;(with_reducible refine (C3.out _ HL.out).mono ?_);rintro e w1 ⟨rfl,hb⟩;have HL1:=Aside0.mk (HL.out.below hb);have H1:=Aside0.mk (H.out.below hb);clear hb)
  | (go_at_call 78;(with_reducible refine (C4.out _ HL1.out).mono ?_);rintro e w2 ⟨a,c,rfl,ha,hb⟩;rw [← HZ4.out];have HA:=Aside0.mk ha;have HL2:=Aside0.mk (HL1.out.below hb);have H2:=Aside0.mk (H1.out.below hb);clear ha hb)
  | (go_at_call 78;(with_reducible refine (C5.out _ HL2.out).mono ?_);rintro e w3 ⟨b,d,rfl,ha,hb⟩;rw [← HZ5.out];have HB:=Aside0.mk ha;have H3:=Aside0.mk (H2.out.below hb);clear ha hb))
 cases z1 with
 | false =>
  as_aux_lemma =>
  have HN:=Aside0.mk (show headB s=none by rw [HD.out];exact if_neg (by simp))
  clear HD
  go_wp2
  go_ret
  exact ⟨by rw [HN.out];first|done|rfl,H3.out.bel,(fun h hh=>by rw [HN.out] at hh;cases hh)⟩
 | true =>
  cases z2 with
  | false =>
   as_aux_lemma =>
   have HN:=Aside0.mk (show headB s=none by rw [HD.out];exact if_neg (by simp))
   clear HD
   go_wp2
   go_ret
   exact ⟨by rw [HN.out];first|done|rfl,H3.out.bel,(fun h hh=>by rw [HN.out] at hh;cases hh)⟩
  | true =>
   cases z3 with
   | false =>
    as_aux_lemma =>
    have HN:=Aside0.mk (show headB s=none by rw [HD.out];exact if_neg (by simp))
    clear HD
    go_wp2
    go_ret
    exact ⟨by rw [HN.out];first|done|rfl,H3.out.bel,(fun h hh=>by rw [HN.out] at hh;cases hh)⟩
   | true =>
    cases z4 with
    | false =>
     as_aux_lemma =>
     have HN:=Aside0.mk (show headB s=none by rw [HD.out,if_pos ⟨rfl,rfl,rfl⟩,none_of HZ4.out])
     clear HD
     go_wp2
     go_ret
     exact ⟨by rw [HN.out];first|done|rfl,H3.out.bel,(fun h hh=>by rw [HN.out] at hh;cases hh)⟩
    | true =>
     cases z5 with
     | false =>
      as_aux_lemma =>
      have HN:=Aside0.mk (show headB s=none by rw [HD.out,if_pos ⟨rfl,rfl,rfl⟩,none_of HZ5.out];rcases sideB x with _|p<;>rfl)
      clear HD
      go_wp2
      go_ret
      exact ⟨by rw [HN.out];first|done|rfl,H3.out.bel,(fun h hh=>by rw [HN.out] at hh;cases hh)⟩
     | true =>
      as_aux_lemma =>
      have hxs:sideB x=some (a,c):=by
       rcases hq:sideB x with _|p
       ·exact absurd HZ4.out (by rw [hq];exact Bool.noConfusion)
       ·rw [HA.out p hq]
      have hys:sideB y=some (b,d):=by
       rcases hq:sideB y with _|p
       ·exact absurd HZ5.out (by rw [hq];exact Bool.noConfusion)
       ·rw [HB.out p hq]
      have HN:=Aside0.mk (show headB s=some ⟨a,c,b,d,[]⟩ by rw [HD.out,if_pos ⟨rfl,rfl,rfl⟩,hxs,hys])
      clear HD hxs hys
      obtain ⟨A0,c0,e0⟩:=Kd.S_slice H3.out.row
      subst e0
      have z0:w3.cell? ⟨g,0,none⟩=some (.slice A0 l.length c0):=(blk_cell H3.out.box 0).trans rfl
      go_upto_region 9 with (first
       | ((with_reducible refine gate_dst (N:=73) rfl ?_);go_must (refine Kd.event_run rfl (v:=.slice (some ⟨w3.heap.size,0,none⟩) 1 1) (w1:=w3.alloc (.cells #[.int .i64 a,.int .i64 c,.int .i64 b,.int .i64 d,.slice none 0 0] 41 (0,0))) (by kernel_rfl) ?_);dsimp only [Act.put])
       | ((with_reducible refine gate_builtin (b:=.append) (xs:=#[.tmp 67,.tmp 73]) rfl ?_);at_builtin;go_must (refine Kd.S_append k41 (w0:=w3) w.heap.size rfl (.tmp 67) (.tmp 73) 22 41 (.agg #[(.int .i64 0),(.int .i64 0),(.int .i64 0),(.int .i64 0),(.slice none 0 0)]) 56 rfl Tryd.underlying22 info41 rfl (by decide) (by omega) _ l (⟨a,c,b,d,[]⟩:S41) [.int .i64 a,.int .i64 c,.int .i64 b,.int .i64 d,.slice none 0 0] (fun _=>True) (fun _=>False) rfl rfl (k41_mkM _ _ _ (⟨a,c,b,d,[]⟩:S41) (Kd.R_nil _ _ _ _ _)) (fun _ h=>h.elim) (fun _ _=>trivial) (Kd.S_mono H3.out.row (fun _ _=>⟨trivial,id⟩)) (Below.refl _ _) H3.out.bel.1.1 (by omega) ?_);intro v2 w4 ho hb2 hg2 hat;obtain ⟨A5,c5,e5⟩:=Kd.S_slice ho;rw [List.length_append,List.length_singleton] at e5;subst e5;go_must (have HG:=Aside0.mk (H3.out.grow hg2 ho hb2));clear z0;go_must (have z0:w4.cell? ⟨g,0,none⟩=some (.slice A0 l.length c0):=(blk_cell HG.out.1 0).trans rfl);go_must (have z0f:=blk_frozen HG.out.1 0);go_must (clear ho hb2 hg2 hat)))
      have HY:=Aside0.mk HG.out.2
      clear z0 z0f
      generalize w4.setCell ⟨g,0,none⟩ (.slice A5 (l.length+1) c5)=w5 at HY ⊢
      have z1:=(blk_cell HY.out.box 1).trans rfl
      have z2:=(blk_cell HY.out.box 2).trans rfl
      have z3:=(blk_cell HY.out.box 3).trans rfl
      have y1:=blk_frozen HY.out.box 1
      have y2:=blk_frozen HY.out.box 2
      have y3:=blk_frozen HY.out.box 3
      go_wp2_with (go_at_call 31;(with_reducible refine (next_calls w g _ c d true fn _ _ (((HY.out.an_ c).bn_ d).bare_ true)).mono ?_);rintro e w6 ⟨rfl,h6⟩;have HE:=Aside0.mk h6;clear h6)
      go_ret
      exact ⟨by rw [HN.out];first|done|rfl,HE.out.bel,(fun h hh=>by rw [HN.out] at hh;obtain rfl:=Option.some.inj hh;exact ⟨_,HE.out⟩)⟩
end Go.Proofs.YtamojbfmphainaaDoor.Pr
-- shrunk
/-
unified's reader: a hunk's line.
-/
namespace Go.Proofs.YtamojbfmphainaaDoor.Pr
open Go.RowKit Go.Proofs.YtamojbfmphainaaDoorW.PrintWords Go.Proofs.YtamojbfmphainaaDoorW.PrintLast Go.Proofs.YtamojbfmphainaaDoorW.PrintMore
theorem at_textA {w:World} {A:Option Addr} {xs:List ByteArray} (h:Kd.C Kd.string w A xs.length xs) (i:Nat) (hi:i<xs.length):∃ ad,A=some ad∧w.cell? (ad.add i)=some (.string xs[i]):=by
 obtain ⟨ad,e,hc⟩:=h.2.2 (by omega)
 obtain ⟨c,_,rfl,h3⟩:=hc i (xs[i]) (List.getElem?_eq_getElem hi)
 have h4:=h3 0 _ rfl
 rw [show Kd.string.sz=1 from rfl,Nat.mul_one,Nat.add_zero] at h4
 exact ⟨ad,e,h4⟩
def stepL (went:Bool) (c an bn:Int):Option (Int × Int):=if c=32 then some (an - 1,bn - 1) else if c=45 then (if went then none else some (an - 1,bn)) else if c=43 then some (an,bn - 1) else none
def wentB (L:List ByteArray):Bool:=match L.getLast? with
 | some s=>bt s 0 == 43
 | none=>false
def lineR (went closed:Bool) (c an bn:Int):Bool:=match stepL went c an bn with
 | some (a,b)=>closed && (decide (0≤a) && decide (0≤b))
 | none=>false
def addL (l:List S41) (m:Nat) (s:ByteArray):List S41:=match l[m]? with
 | some x=>l.set m { x with f4:=x.f4++[s] }
 | none=>l
def LineEnd (w:World) (g:Nat) (went closed:Bool) (c an bn:Int) (l:List S41) (m:Nat) (s:ByteArray) (e:Ending) (w':World):Prop :=
 e=.returned (.bool (lineR went closed c an bn))∧Keep1 w g w'∧∀ a b,stepL went c an bn=some (a,b)→∃ v,RBox w g v a b false (nextF a b) (addL l m s) w'
set_option maxRecDepth 100000 in
set_option maxHeartbeats 8000000 in
theorem line_calls (w:World) (g:Nat) (v:Value) (an bn:Int) (bare:Bool) (fn:Nat) (l:List S41) (m:Nat) (x:S41) (s:ByteArray) (closed:Bool) (W:World) (h:RBox w g v an bn bare fn l W)
  (hm:l.length=m+1) (hx:l[m]?=some x) (hb:l.length≤1099511627776) (hb4:x.f4.length≤1099511627776) (hne:∀ t ∈ x.f4,0<t.size) (hs:0<s.size) (ha0:0≤an) (ha1:an≤1099511627776) (hb0:0≤bn) (hb1:bn≤1099511627776) (hc:lines_Closed.f s=some closed) :
  Calls Tryd.prog 59 #[.pointer (some ⟨g,0,none⟩),.string s] W (LineEnd w g (wentB x.f4) closed (bt s 0) an bn l m s):=by
 have H:=Aside0.mk h
 obtain ⟨gl,cl,rfl,hgl,_,_⟩:=Kd.S_form h.row (by omega)
 have hz0:W.cell? ⟨g,0,none⟩=some (.slice (some ⟨gl,0,none⟩) l.length cl):=(blk_cell h.box 0).trans rfl
 have HL:=Aside0.mk hm
 have HX0:=Aside0.mk hx
 have HNE:=Aside0.mk hne
 have HS:=Aside0.mk hs
 have HC:=Aside0.mk hc
 have HG:=Aside0.mk hgl
 clear h hx hne hs hc hgl
 obtain ⟨went,hwent⟩:∃ b,b=wentB x.f4:=⟨_,rfl⟩
 rw [← hwent]
 have HW:=Aside0.mk hwent
 obtain ⟨C,hC⟩:∃ C:Int,C=bt s 0:=⟨_,rfl⟩
 rw [← hC]
 have HCC:=Aside0.mk hC
 clear hwent hC
 go_enter Tryd.func59,Tryd.ntmps59
 have k1:IntKind.i64.wrap ((l.length:Int) - 1)=(m:Int):=by rw [IntWalk.i64_in _ (by omega)];omega
 go_wp2
 go_quiet (fail)
 go_upto_region 2 with (fail)
 clear k1 hz0
 go_cut [6] (fun v6 wc=>v6=.bool went∧Aside0 (RBox w g (.slice (some ⟨gl,0,none⟩) l.length cl) an bn bare fn l wc))
 case first =>
  have HX:=Aside0.mk (H.out.below (pw_below_drewN (Below.refl _ _) nq))
  obtain ⟨oki,c,hcl,hM,hcc,hoki,hB⟩:=Kd.S_borrow HX.out.row z41 (m:Int) (by omega) (by have:=HL.out;omega)
  have hxd:l.getD (m:Int).toNat z41=x:=by rw [Int.toNat_natCast,List.getD_eq_getElem?_getD,HX0.out];rfl
  rw [hxd] at hM
  obtain ⟨v4,rfl,hR⟩:=k41_openM hM
  obtain ⟨A4,c4,rfl,hc4,hr4⟩:=Kd.R_reads hR
  have z4:(W.drewN nq).cell? ⟨gl,m * 5+4,none⟩=some (.slice A4 x.f4.length c4):=by have h_:=hcc 4 _ rfl;simpa [Addr.add,k41,Kd.iso,Kd.pair,Kd.int,Kd.scalar,Kd.slice] using h_
  clear hcl hM hcc hoki hB hxd hR hc4 hm H
  generalize W.drewN nq=W2 at HX z4 hr4 ⊢
  by_cases hq0:x.f4.length=0
  ·obtain ⟨zb,hzb⟩:∃ zb:Bool,zb=false:=⟨_,rfl⟩
   have HWf:went=zb:=by
    rw [HW.out,hzb,wentB,List.eq_nil_of_length_eq_zero hq0];rfl
   have f1:decide (0<x.f4.length)=zb:=by rw [hzb];exact decide_eq_false (by omega)
   have f2:decide (0<(x.f4.length:Int))=zb:=by rw [hzb];exact decide_eq_false (by omega)
   have f3:(zb=true)=False:=by rw [hzb];exact eq_false (by decide)
   have HZ:=Aside0.mk hzb
   subst HWf
   clear hq0 hr4 hzb
   repeat (go_quiet (fail);try go_wp2)
   go_meet
   case rel=>exact ⟨by rw [HZ.out],⟨HX.out.below (pw_below_drewN (Below.refl _ _) _)⟩⟩
  ·obtain ⟨q,hq⟩:∃ q,x.f4.length=q+1:=⟨x.f4.length - 1,by omega⟩
   obtain ⟨ad,ea,hw1⟩:=at_textA hr4 q (by omega)
   cases ea
   obtain ⟨t,ht⟩:∃ t,t=x.f4[q]'(by omega):=⟨_,rfl⟩
   rw [← ht] at hw1
   have hts:0<t.size:=by rw [ht];exact HNE.out _ (List.getElem_mem _)
   obtain ⟨B,hB⟩:∃ B:Int,B=bt t 0:=⟨_,rfl⟩
   have hx7:∀ h:0<t.size,((t[0]'h).toNat:Int)=B:=by rw [hB];exact bt_at t 0
   have HWf:went=(B == 43):=by
    rw [HW.out,wentB,List.getLast?_eq_getElem?,hq,Nat.add_sub_cancel,List.getElem?_eq_getElem (show q<x.f4.length by omega),← ht,hB]
   have q7:(0<t.size)=True:=eq_true hts
   have qi7:(0<(t.size:Int))=True:=eq_true (by omega)
   have q8:(1≤t.size)=True:=eq_true hts
   have f1:decide (0<x.f4.length)=true:=decide_eq_true (by omega)
   have k5:((q:Int)<(q:Int)+1)=True:=eq_true (by omega)
   have k4:wrap64 (q:Int)=(q:Int):=by unfold wrap64;omega
   have k3:IntKind.i64.wrap (((q+1:Nat):Int) - 1)=(q:Int):=by clear k4;rw [IntWalk.i64_in _ (by omega)];omega
   have k2:IntKind.i64.wrap ((q:Int)+1 - 1)=(q:Int):=by clear k4 k3;rw [IntWalk.i64_in _ (by omega)];omega
   have HT:=Aside0.mk ht
   have HBt:=Aside0.mk hB
   subst HWf
   clear hq0 hr4 ht hts hB
   repeat (go_quiet (fail);try go_wp2)
   go_meet
   case rel=>exact ⟨rfl,⟨HX.out.below (pw_below_drewN (Below.refl _ _) _)⟩⟩
 case rest =>
  obtain ⟨rfl,HX⟩:=hcut
  clear H
  have hx8:∀ h:0<s.size,((s[0]'h).toNat:Int)=C:=by rw [HCC.out];exact bt_at s 0
  have q7:(0<s.size)=True:=eq_true HS.out
  have qi7:(0<(s.size:Int))=True:=eq_true (by have:=HS.out;omega)
  have q8:(1≤s.size)=True:=eq_true HS.out
  have z1:wc.cell? ⟨g,1,none⟩=some (.int .i64 an):=(blk_cell HX.out.box 1).trans rfl
  have z2:wc.cell? ⟨g,2,none⟩=some (.int .i64 bn):=(blk_cell HX.out.box 2).trans rfl
  have zf:=blk_frozen HX.out.box 1
  have zg:=blk_frozen HX.out.box 2
  clear hm
  go_upto_block 0 with (fail)
  go_cut [] (fun wd=>∃ a b:Int,Aside0 (stepL went C an bn=some (a,b))∧Aside0 (RBox w g (.slice (some ⟨gl,0,none⟩) l.length cl) a b bare fn l wd))
  case first =>
   by_cases c1:C=32
   ·as_aux_lemma =>
    have HT:=Aside0.mk (show stepL went C an bn=some (an - 1,bn - 1) by rw [stepL,if_pos c1])
    have c1a:(C == 32)=true:=beq_iff_eq.2 c1
    clear c1
    go_wp2
    go_meet
    case rel=>exact ⟨_,_,HT,⟨(HX.out.an_ _).bn_ _⟩⟩
   ·have c1a:(C == 32)=false:=beq_eq_false_iff_ne.2 c1
    by_cases c2:C=45
    ·have c2a:(C == 45)=true:=beq_iff_eq.2 c2
     cases went with
     | true =>
      as_aux_lemma =>
      have HT:=Aside0.mk (show stepL true C an bn=none by rw [stepL,if_neg c1,if_pos c2];rfl)
      clear c1 c2
      go_wp2
      go_ret
      exact ⟨by rw [show lineR _ closed C an bn=false by simp only [lineR,HT.out]];first|done|rfl,(HX.out.an_ _).bel,fun a b h=>by rw [HT.out] at h;cases h⟩
     | false =>
      as_aux_lemma =>
      have HT:=Aside0.mk (show stepL false C an bn=some (an - 1,bn) by rw [stepL,if_neg c1,if_pos c2];rfl)
      clear c1 c2
      go_wp2
      go_meet
      case rel=>exact ⟨_,_,HT,⟨HX.out.an_ _⟩⟩
    ·have c2a:(C == 45)=false:=beq_eq_false_iff_ne.2 c2
     by_cases c3:C=43
     ·as_aux_lemma =>
      have HT:=Aside0.mk (show stepL went C an bn=some (an,bn - 1) by rw [stepL,if_neg c1,if_neg c2,if_pos c3])
      have c3a:(C == 43)=true:=beq_iff_eq.2 c3
      clear c1 c2 c3
      go_wp2
      go_meet
      case rel=>exact ⟨_,_,HT,⟨HX.out.bn_ _⟩⟩
     ·as_aux_lemma =>
      have HT:=Aside0.mk (show stepL went C an bn=none by rw [stepL,if_neg c1,if_neg c2,if_neg c3])
      have c3a:(C == 43)=false:=beq_eq_false_iff_ne.2 c3
      clear c1 c2 c3
      go_wp2
      go_ret
      exact ⟨by rw [show lineR _ closed C an bn=false by simp only [lineR,HT.out]];first|done|rfl,HX.out.bel,fun a b h=>by rw [HT.out] at h;cases h⟩
  case rest =>
   obtain ⟨a,b,HST,HY⟩:=hcut
   clear z1 z2 zf zg q7 qi7 q8 hx8 HX
   obtain ⟨oki,c,hcl,hM,hcc,hfr,hoki,hH⟩:=Kd.S_elem HY.out.row z41 (m:Int) (by omega) (by have:=HL.out;omega)
   have hxd:l.getD (m:Int).toNat z41=x:=by rw [Int.toNat_natCast,List.getD_eq_getElem?_getD,HX0.out];rfl
   rw [hxd] at hM
   obtain ⟨v4,rfl,hR⟩:=k41_openM hM
   obtain ⟨A4,c4,rfl⟩:=Kd.R_slice hR
   have z4:wc.cell? ⟨gl,m * 5+4,none⟩=some (.slice A4 x.f4.length c4):=by have h_:=hcc 4 _ rfl;simpa [Addr.add,k41,Kd.iso,Kd.pair,Kd.int,Kd.scalar,Kd.slice] using h_
   have HNEb:=Aside0.mk (Kd.R_ne hR HY.out.box (by decide))
   have HR:=Aside0.mk (Kd.R_mono hR (ok':=fun k=>oki k∨wc.heap.size≤k) (fun _ h=>.inl h))
   have HH:=Aside0.mk (Kd.H_widen hH)
   have HBEL:=Aside0.mk HY.out.bel
   clear hM hcc hfr hoki hH hxd hR hcl
   have HNg:=Aside0.mk (show g≠gl from fun e=>Kd.S_ne HY.out.row HY.out.box (by decide) (by rw [e];simp [Value.ownBlock]))
   go_upto_region 17 with (first
    | ((with_reducible refine gate_builtin (b:=.append) (xs:=#[.tmp 81,.tmp 83]) rfl ?_);at_builtin;refine Kd.R_append Kd.string (w0:=wc) w.heap.size rfl (.tmp 81) (.tmp 83) 33 9 (.string ⟨#[]⟩) 16 rfl Tryd.underlying33 info9 rfl (by decide) (by omega) (.slice A4 x.f4.length c4) x.f4 s [.string s] (fun k=>oki k∨wc.heap.size≤k) (fun _=>False) rfl rfl rfl (fun _ h=>h.elim) (fun _ h=>.inr h) HR.out (Below.refl _ _) HBEL.out.1.1 (by omega) ?_;intro v2 w3 ho hb2 hg2 hat;have HO:=Aside0.mk ho;have HB2:=Aside0.mk hb2;have HH2:=Aside0.mk (Kd.H_grown HH.out hg2 (fun k hk=>(HR.out.1 k hk).imp id (fun h=>⟨trivial,h⟩)));have HBX:=Aside0.mk (blk_grown HY.out.box hg2 HNEb.out);clear ho hb2 hg2 hat z4)
    | ((with_reducible refine gate_store (t:=33) (p:=86) rfl ?_);refine Kd.H_store k41 (w0:=wc) w.heap.size rfl rfl 33 (.tmp 86) (.tmp 84) rfl 41 (m:Int) 4 l { x with f4:=x.f4++[s] } v2 [v2] _ (fun _=>True) _ (fun k=>oki k∨wc.heap.size≤k) rfl (by rw [Int.toNat_natCast];rfl) rfl (Kd.R_val HO.out).1 (by kernel_rfl) (by intro q hq;rw [List.mem_singleton.1 hq];exact (Kd.R_val HO.out).2) HH2.out (by omega) (by have:=HL.out;omega) (by show 4+1≤5;omega) (k41_mkM _ _ _ { x with f4:=x.f4++[s] } HO.out) (fun k hk=>hk.imp id (fun h=>⟨trivial,h⟩)) HB2.out ?_;intro w4 hS hb4w hg4;have HZ:=Aside0.mk (show RBox w g (.slice (some ⟨gl,0,none⟩) l.length cl) a b bare fn (addL l m s) w4 from ⟨blk_grown HBX.out hg4 (fun e=>HNg.out (Option.some.inj e)),by rw [addL,HX0.out];rw [Int.toNat_natCast] at hS;exact hS,keep_below' HY.out.bel hb4w (Nat.le_refl _)⟩);have z3:=(blk_cell HZ.out.box 3).trans rfl;have z3f:=blk_frozen HZ.out.box 3;clear hS hb4w hg4)
    | (go_at_call 31;(with_reducible refine (next_calls w g _ a b false fn _ _ (HZ.out.bare_ false)).mono ?_);rintro e w5 ⟨rfl,h5⟩;have HE:=Aside0.mk h5;clear h5))
   have z1:w5.cell? ⟨g,1,none⟩=some (.int .i64 a):=(blk_cell HE.out.box 1).trans rfl
   have z2:w5.cell? ⟨g,2,none⟩=some (.int .i64 b):=(blk_cell HE.out.box 2).trans rfl
   have fin:∀ r w',r=(closed && (decide (0≤a) && decide (0≤b)))→Below w5.heap.size w5 w'→LineEnd w g went closed C an bn l m s (.returned (.bool r)) w':=by
    intro r w' hr hb'
    refine ⟨?_,(HE.out.below hb').bel,fun a' b' h=>?_⟩
    ·rw [hr];simp only [lineR,HST.out]
    ·rw [HST.out] at h
     cases h
     exact ⟨_,HE.out.below hb'⟩
   have FIN:=Aside0.mk fin
   clear fin z3 z3f
   cases closed with
   | false =>
    as_aux_lemma =>
    go_wp2_with (go_at_call 25;(with_reducible refine (lines_Closed.calls s false _ HC.out).mono ?_);rintro e w6 ⟨rfl,⟨nd,rfl⟩⟩)
    go_ret
    exact FIN.out _ _ rfl (pw_below_drewN (Below.refl _ _) _)
   | true =>
    by_cases ca:0≤a
    ·have cab:decide (0≤a)=true:=decide_eq_true ca
     by_cases cb:0≤b
     ·as_aux_lemma =>
      have cbb:decide (0≤b)=true:=decide_eq_true cb
      have hr:=Aside0.mk (show true=(true && (decide (0≤a) && decide (0≤b))) by rw [cab,cbb];rfl)
      clear ca cb
      go_wp2_with (go_at_call 25;(with_reducible refine (lines_Closed.calls s true _ HC.out).mono ?_);rintro e w6 ⟨rfl,⟨nd,rfl⟩⟩)
      go_ret
      exact FIN.out _ _ hr.out (pw_below_drewN (Below.refl _ _) _)
     ·as_aux_lemma =>
      have cbb:decide (0≤b)=false:=decide_eq_false cb
      have hr:=Aside0.mk (show false=(true && (decide (0≤a) && decide (0≤b))) by rw [cab,cbb];rfl)
      clear ca cb
      go_wp2_with (go_at_call 25;(with_reducible refine (lines_Closed.calls s true _ HC.out).mono ?_);rintro e w6 ⟨rfl,⟨nd,rfl⟩⟩)
      go_ret
      exact FIN.out _ _ hr.out (pw_below_drewN (Below.refl _ _) _)
    ·as_aux_lemma =>
     have cab:decide (0≤a)=false:=decide_eq_false ca
     have hr:=Aside0.mk (show false=(true && (decide (0≤a) && decide (0≤b))) by rw [cab];rfl)
     clear ca
     go_wp2_with (go_at_call 25;(with_reducible refine (lines_Closed.calls s true _ HC.out).mono ?_);rintro e w6 ⟨rfl,⟨nd,rfl⟩⟩)
     go_ret
     exact FIN.out _ _ hr.out (pw_below_drewN (Below.refl _ _) _)
end Go.Proofs.YtamojbfmphainaaDoor.Pr
-- shrunk
/-
unified.Parse as a plain function: a state, a step for each line.
-/
namespace Go.Proofs.YtamojbfmphainaaDoor.Pr
open Go.RowKit Go.Proofs.YtamojbfmphainaaDoorW.PrintWords Go.Proofs.YtamojbfmphainaaDoorW.PrintLast Go.Proofs.YtamojbfmphainaaDoorW.PrintMore
abbrev Hk:=S41
structure PS where
 l:List Hk
 an:Int
 bn:Int
 bare:Bool
def chopH (x:Hk):Hk:={ x with f4:=x.f4.set (x.f4.length - 1) (chopB (rdOf ByteArray.empty x.f4 ((x.f4.length - 1:Nat):Int))) }
def chopL (l:List Hk):List Hk:=match l[l.length - 1]? with
 | some x=>l.set (l.length - 1) (chopH x)
 | none=>l
def stepP (st:PS) (s:ByteArray):Option PS :=
 if s=openB∧st.bare=false then some ⟨chopL st.l,st.an,st.bn,true⟩
 else if st.an=0∧st.bn=0 then (headB s).map fun h=>⟨st.l++[h],h.f1,h.f3,true⟩
 else match st.l[st.l.length - 1]? with
  | some x=>if lineR (wentB x.f4) (closedL s.data.toList) (bt s 0) st.an st.bn=true then (stepL (wentB x.f4) (bt s 0) st.an st.bn).map fun p=>⟨addL st.l (st.l.length - 1) s,p.1,p.2,false⟩ else none
  | none=>none
def parseL:List ByteArray→Nat→PS→List Hk × Int × Int
 | [],i,st=>if st.an > 0∨st.bn > 0 then ([],(i:Int)+1,2) else (st.l,0,0)
 | s :: r,i,st=>match stepP st s with
  | some st'=>parseL r (i+1) st'
  | none=>([],(i:Int)+1,3)
def parseU (s:ByteArray):List Hk × Int × Int:=parseL (linesB s) 0 ⟨[],0,0,true⟩
def sign (c:Int):Prop:=c=32∨c=43∨c=45
def GoodL (B:Nat) (t:ByteArray):Prop:=0<t.size∧t.size≤B∧sign (bt t 0)
structure PInv (B k:Nat) (st:PS):Prop where
 a0:0≤st.an
 a1:st.an≤2147483647
 b0:0≤st.bn
 b1:st.bn≤2147483647
 len:st.l.length≤k
 last:(st.an≠0∨st.bn≠0∨st.bare=false)→∃ m x,st.l.length=m+1∧st.l[m]?=some x∧x.f4.length≤k∧(∀ t ∈ x.f4,GoodL B t)∧(st.bare=false→x.f4≠[])
theorem chopB_cases (t:ByteArray):chopB t=t∨(t.data.toList.getLast?=some 10∧chopB t=bs t.data.toList.dropLast):=by
 unfold chopB Lib.trimSuffix
 split
 ·rename_i h
  right
  unfold Lib.hasSuffix at h
  obtain ⟨u,hu⟩:=List.isSuffixOf_iff_suffix.1 h
  refine ⟨by rw [← hu,List.getLast?_append];rfl,?_⟩
  rw [← hu,List.length_append,List.length_singleton,Nat.add_sub_cancel,List.take_left,List.dropLast_concat]
  rfl
 ·left;rfl
theorem chopB_good {B:Nat} {t:ByteArray} (h:GoodL B t):GoodL B (chopB t):=by
 rcases chopB_cases t with e|⟨h1,e⟩
 ·rw [e];exact h
 ·obtain ⟨h2,h3,h4⟩:=h
  have hlen:t.data.toList.length=t.size:=rfl
  rcases hl:t.data.toList with _|⟨a,_|⟨b,r⟩⟩
  ·rw [hl] at hlen;simp at hlen;omega
  ·exfalso
   rw [hl] at h1
   have ha:a=10:=Option.some.inj h1
   have hb:bt t 0=10:=by
    have h5:=(bt_eq t 0 h2 10).2 (by simp only [hl,ha];rfl)
    exact h5
   rw [hb] at h4
   rcases h4 with h4|h4|h4<;>exact absurd h4 (by decide)
  ·rw [e,hl]
   have hsz:(bs (a :: b :: r).dropLast).size=t.size - 1:=by
    show (a :: b :: r).dropLast.toArray.size=_
    rw [List.size_toArray,List.length_dropLast,← hl,hlen]
   have h2':1<t.size:=by rw [← hlen,hl];simp
   refine ⟨by omega,by omega,?_⟩
   have h5:bt (bs (a :: b :: r).dropLast) 0=bt t 0:=by
    have e1:=bt_get (bs (a :: b :: r).dropLast) 0 (by omega)
    have e2:=bt_get t 0 h2
    simp only [Int.natCast_zero] at e1 e2
    rw [e1,e2]
    simp only [hl]
    rfl
   rw [h5];exact h4
theorem stepL_range {went:Bool} {c an bn a b:Int} (h:stepL went c an bn=some (a,b)):sign c∧a≤an∧b≤bn:=by
 unfold stepL at h
 split at h
 ·rename_i h1;cases h;exact ⟨.inl h1,by omega,by omega⟩
 ·split at h
  ·rename_i h1
   split at h
   ·cases h
   ·cases h;exact ⟨.inr (.inr h1),by omega,by omega⟩
  ·split at h
   ·rename_i h1;cases h;exact ⟨.inr (.inl h1),by omega,by omega⟩
   ·cases h
theorem sideB_range {s:ByteArray} {p:Int × Int} (h:sideB s=some p):0≤p.1∧p.1≤2147483647∧0≤p.2∧p.2≤2147483647:=by
 unfold sideB at h
 split at h
 ·split at h
  ·rename_i x y hx hy
   have h1:=numB_range hx
   have h2:=numB_range hy
   split at h
   ·cases h
   ·rename_i hn
    obtain rfl:=Option.some.inj h
    refine ⟨?_,?_,h2.1,by have:=h2.2.1;show y≤_;omega⟩
    ·show 0≤if y > 0 then x - 1 else x
     split<;>omega
    ·show (if y > 0 then x - 1 else x)≤2147483647
     split<;>omega
  ·cases h
 ·cases h
theorem headB_range {s:ByteArray} {h:Hk} (e:headB s=some h):0≤h.f0∧h.f0≤2147483647∧0≤h.f1∧h.f1≤2147483647∧0≤h.f2∧h.f2≤2147483647∧0≤h.f3∧h.f3≤2147483647∧h.f4=[]:=by
 unfold headB at e
 split at e
 ·split at e
  ·rename_i p q hp hq
   obtain rfl:=Option.some.inj e
   have h1:=sideB_range hp
   have h2:=sideB_range hq
   exact ⟨h1.1,h1.2.1,h1.2.2.1,h1.2.2.2,h2.1,h2.2.1,h2.2.2.1,h2.2.2.2,rfl⟩
  ·cases e
 ·cases e
theorem lineR_some {went closed:Bool} {c an bn:Int} (h:lineR went closed c an bn=true):∃ a b,stepL went c an bn=some (a,b)∧closed=true∧0≤a∧0≤b:=by
 unfold lineR at h
 split at h
 ·rename_i a b hs
  simp only [Bool.and_eq_true,decide_eq_true_eq] at h
  exact ⟨a,b,hs,h.1,h.2.1,h.2.2⟩
 ·cases h
theorem PInv.step {B k:Nat} {st st':PS} {s:ByteArray} (h:PInv B k st) (hs:0<s.size) (hB:s.size≤B) (e:stepP st s=some st'):PInv B (k+1) st':=by
 unfold stepP at e
 split at e
 ·rename_i hc
  obtain rfl:=Option.some.inj e
  obtain ⟨m,x,h1,h2,h3,h4,h5⟩:=h.last (.inr (.inr hc.2))
  have hcl:chopL st.l=st.l.set m (chopH x):=by rw [chopL,h1,Nat.add_sub_cancel,h2]
  refine ⟨h.a0,h.a1,h.b0,h.b1,?_,fun _=>⟨m,chopH x,?_,?_,?_,?_,fun h_=>by cases h_⟩⟩
  ·show (chopL st.l).length≤_
   rw [hcl,List.length_set];have:=h.len;omega
  ·show (chopL st.l).length=_
   rw [hcl,List.length_set];exact h1
  ·show (chopL st.l)[m]?=_
   rw [hcl,List.getElem?_set_self (by omega)]
  ·show (x.f4.set _ _).length≤_
   rw [List.length_set];omega
  ·intro t ht
   rcases List.mem_or_eq_of_mem_set ht with ht|rfl
   ·exact h4 t ht
   ·have hne:=h5 hc.2
    have hl:x.f4.length - 1<x.f4.length:=by
     have:=List.length_pos_iff.2 hne;omega
    rw [rdS_at hl]
    exact chopB_good (h4 _ (List.getElem_mem _))
 ·split at e
  ·rename_i hc0 hc
   obtain ⟨hd,he,rfl⟩:=Option.map_eq_some_iff.1 e
   have hr:=headB_range he
   refine ⟨hr.2.2.1,hr.2.2.2.1,hr.2.2.2.2.2.2.1,hr.2.2.2.2.2.2.2.1,?_,fun _=>⟨st.l.length,hd,?_,?_,?_,?_,fun h_=>by cases h_⟩⟩
   ·show (st.l++[hd]).length≤_
    rw [List.length_append,List.length_singleton];have:=h.len;omega
   ·show (st.l++[hd]).length=_
    rw [List.length_append,List.length_singleton]
   ·show (st.l++[hd])[st.l.length]?=_
    rw [List.getElem?_concat_length]
   ·rw [hr.2.2.2.2.2.2.2.2];exact Nat.zero_le _
   ·rw [hr.2.2.2.2.2.2.2.2];intro t ht;cases ht
  ·rename_i hc0 hc
   split at e
   ·rename_i x hx
    split at e
    ·rename_i hl
     obtain ⟨a,b,hst,hcl,ha,hb⟩:=lineR_some hl
     rw [hst] at e
     obtain rfl:=Option.some.inj e
     have hr:=stepL_range hst
     obtain ⟨m,x',h1,h2,h3,h4,h5⟩:=h.last (by
      by_cases h0:st.an=0
      ·exact .inr (.inl fun hb0=>hc ⟨h0,hb0⟩)
      ·exact .inl h0)
     rw [h1,Nat.add_sub_cancel,h2] at hx
     obtain rfl:=Option.some.inj hx
     have hadd:addL st.l (st.l.length - 1) s=st.l.set m { x' with f4:=x'.f4++[s] }:=by rw [addL,h1,Nat.add_sub_cancel,h2]
     refine ⟨ha,by have:=hr.2.1;have:=h.a1;show a≤_;omega,hb,by have:=hr.2.2;have:=h.b1;show b≤_;omega,?_,fun _=>⟨m,{ x' with f4:=x'.f4++[s] },?_,?_,?_,?_,fun _=>by simp⟩⟩
     ·show (addL st.l (st.l.length - 1) s).length≤_
      rw [hadd,List.length_set];have:=h.len;omega
     ·show (addL st.l (st.l.length - 1) s).length=_
      rw [hadd,List.length_set];exact h1
     ·show (addL st.l (st.l.length - 1) s)[m]?=_
      rw [hadd,List.getElem?_set_self (by omega)]
     ·show (x'.f4++[s]).length≤_
      rw [List.length_append,List.length_singleton];omega
     ·intro t ht
      rcases List.mem_append.1 ht with ht|ht
      ·exact h4 t ht
      ·obtain rfl:=List.mem_singleton.1 ht
       exact ⟨hs,hB,hr.1⟩
    ·cases e
   ·cases e
end Go.Proofs.YtamojbfmphainaaDoor.Pr
-- shrunk
/-
unified.Parse.
-/
namespace Go.Proofs.YtamojbfmphainaaDoor.Pr
open Go.RowKit Go.Proofs.YtamojbfmphainaaDoorW.PrintWords Go.Proofs.YtamojbfmphainaaDoorW.PrintLast Go.Proofs.YtamojbfmphainaaDoorW.PrintMore
set_option maxRecDepth 100000 in
set_option maxHeartbeats 2000000 in
theorem clip_calls (A:Option Addr) (n c:Nat) (h:n≤c) (hn:n≤4611686018427387904) (w:World) :
  Calls Tryd.prog 33 #[.slice A n c] w fun e w'=>e=.returned (.slice A n n)∧w'=w:=by
 go_enter Tryd.func33,Tryd.ntmps33
 go_wp2
 go_ret
 exact ⟨rfl,rfl⟩
set_option maxRecDepth 100000 in
set_option maxHeartbeats 2000000 in
theorem next_new (w:World) :
  Calls Tryd.prog 31 #[.pointer (some ⟨w.heap.size,0,none⟩)] (w.alloc (.cells #[.slice none 0 0,.int .i64 0,.int .i64 0,.bool true,.nilFunc] 57 (0,0))) fun e w'=>e=.returned (.tuple #[])∧w'.heap[w.heap.size]?=some (.cells #[.slice none 0 0,.int .i64 0,.int .i64 0,.bool true,.func (.func 60) #[.pointer (some ⟨w.heap.size,0,none⟩)] #[]] 57 (0,0))∧Below w.heap.size w w':=by
 have hb:=blk_new w (.cells #[.slice none 0 0,.int .i64 0,.int .i64 0,.bool true,.nilFunc] 57 (0,0))
 have hbel:Below w.heap.size w (w.alloc (.cells #[.slice none 0 0,.int .i64 0,.int .i64 0,.bool true,.nilFunc] 57 (0,0))):=below_alloc (Below.refl _ _) _
 generalize w.alloc (.cells #[.slice none 0 0,.int .i64 0,.int .i64 0,.bool true,.nilFunc] 57 (0,0))=W at hb hbel ⊢
 have HB:=Aside0.mk hb
 have HL:=Aside0.mk hbel
 have hz1:W.cell? ⟨w.heap.size,1,none⟩=some (.int .i64 0):=(blk_cell hb 1).trans rfl
 have hz2:W.cell? ⟨w.heap.size,2,none⟩=some (.int .i64 0):=(blk_cell hb 2).trans rfl
 have hz4:W.cell? ⟨w.heap.size,4,none⟩=some .nilFunc:=(blk_cell hb 4).trans rfl
 have hzf:=blk_frozen hb 4
 clear hb hbel
 generalize hg:w.heap.size=g at *
 have HG:=Aside0.mk hg
 clear hg
 go_enter Tryd.func31,Tryd.ntmps31
 go_wp2
 go_end0
 have h1:=blk_put HB.out 4 (.func (.func 59) #[.pointer (some ⟨g,0,none⟩)] #[]) rfl
 have h2:=blk_put h1 4 (.func (.func 60) #[.pointer (some ⟨g,0,none⟩)] #[]) rfl
 have e:=HG.out
 subst e
 exact ⟨rfl,h2,below_set (below_set HL.out (Nat.le_refl _)) (Nat.le_refl _)⟩
def ParseEnd (s:ByteArray) (w:World) (e:Ending) (w':World):Prop:=∃ A c,e=.returned (.tuple #[.slice A (parseU s).1.length c,.int .i64 (parseU s).2.1,.int .i64 (parseU s).2.2])∧(parseU s).1.length≤c∧Kd.C k41 w' A (parseU s).1.length (parseU s).1∧Below w.heap.size w w'
theorem linesB_mem {s t:ByteArray} (h:t ∈ linesB s):0<t.size∧t.size≤s.size:=by
 rw [linesB_lns] at h
 obtain ⟨u,hu,rfl⟩:=List.mem_map.1 h
 have h1:=lns_ne _ u hu
 have h2:u.length≤s.data.toList.length:=by
  have h3:=(List.sublist_flatten_of_mem hu).length_le
  rwa [lns_flatten] at h3
 refine ⟨?_,?_⟩
 ·show 0<u.toArray.size
  rw [List.size_toArray];exact List.length_pos_iff.2 h1
 ·show u.toArray.size≤s.data.size
  rw [List.size_toArray,← Array.length_toList];exact h2
set_option maxRecDepth 100000 in
set_option maxHeartbeats 16000000 in
theorem parse_calls (s:ByteArray) (hs:s.size≤1073741824) (w:World) (hL:LaidU w):Calls Tryd.prog 12 #[.string s] w (ParseEnd s w):=by
 have HL:=Aside0.mk hL
 obtain ⟨L,hLL⟩:∃ L,L=linesB s:=⟨_,rfl⟩
 have HSP:=Aside0.mk (show lines_Split.f s=some L by rw [hLL];exact Split_some s (by omega))
 have HG:=Aside0.mk (show ∀ t ∈ L,0<t.size∧t.size≤s.size by rw [hLL];exact fun t h=>linesB_mem h)
 have HP:=Aside0.mk (show parseL L 0 ⟨[],0,0,true⟩=parseU s by rw [hLL];rfl)
 have hll:L.length≤1073741824:=by rw [hLL];have:=linesB_len s;omega
 have HS:=Aside0.mk hs
 clear hs hLL hL
 go_enter Tryd.func12,Tryd.ntmps12
 go_upto_region 4 with (first
  | (go_at_call 31;(with_reducible refine (next_new w).mono ?_);rintro e w1 ⟨rfl,h1,hb1⟩;have HX1:=Aside0.mk h1;have HB1:=Aside0.mk hb1;clear h1 hb1)
  | (go_at_call 16;(with_reducible refine (lines_Split.calls s L _ HSP.out).mono ?_);rintro e w2 ⟨v2,rfl,ho,hb⟩;obtain ⟨A2,c2,e2⟩:=Kd.R_slice ho;subst e2;have HX2:=Aside0.mk (show RBox w2 w.heap.size (.slice none 0 0) 0 0 true 60 [] w2 from ⟨blk_below HX1.out hb,Kd.S_nil _ _ _ _ _,Keep1.refl _ _⟩);have HRL:=Aside0.mk (Kd.R_types ho HX2.out.box (by intro q hq;simp [Kd.string,Kd.scalar] at hq;subst hq;decide));have HB2:=Aside0.mk (below_step HB1.out hb);clear ho hb))
 generalize hgg:w.heap.size=g at *
 have HGG:=Aside0.mk hgg
 clear hgg
 have FIN:=Aside0.mk (show ∀ W,Keep1 w2 g W→Below w.heap.size w W from fun W h=>Keep1.below (by have h_:=HB2.out;rw [← HGG.out] at h_;exact h_) h (by rw [HGG.out];exact Nat.le_refl _))
 go_upto_block 0 with (fail)
 have hi0:=Aside0.mk (show PInv s.size 0 ⟨[],0,0,true⟩ from ⟨Int.le_refl _,by decide,Int.le_refl _,by decide,Nat.le_refl _,fun h=>by rcases h with h|h|h<;>exact absurd h (by decide)⟩)
 go_wp2_with (fail)
 go_loopg [17] L.length (fun kq v17 wr=>∃ (k:Nat) (st:PS) (v:Value),v17=.int .i64 (k:Int)∧Aside0 (k≤L.length∧L.length≤kq+k)∧Aside0 (parseL (L.drop k) k st=parseU s)∧Aside0 (PInv s.size k st)∧Aside0 (RBox w2 g v st.an st.bn st.bare (nextF st.an st.bn) st.l wr))
 case atStart=>exact ⟨0,⟨[],0,0,true⟩,_,rfl,⟨by omega⟩,HP,hi0,HX2⟩
 case round =>
  clear HX2 HX1 HP hi0
  obtain ⟨k,st,v,rfl,HB,HQ,HI,HX⟩:=hrel
  by_cases hend:k=L.length
  ·as_aux_lemma =>
   have f2:decide (k<L.length)=false:=decide_eq_false (by omega)
   have HQ2:=Aside0.mk (show parseU s=if st.an > 0∨st.bn > 0 then ([],(k:Int)+1,2) else (st.l,0,0) by rw [← HQ.out,List.drop_of_length_le (by omega)];rfl)
   have z1:wr.cell? ⟨g,1,none⟩=some (.int .i64 st.an):=(blk_cell HX.out.box 1).trans rfl
   have z2:wr.cell? ⟨g,2,none⟩=some (.int .i64 st.bn):=(blk_cell HX.out.box 2).trans rfl
   obtain ⟨A,c,e0⟩:=Kd.S_slice HX.out.row
   subst e0
   have HRD:=Aside0.mk (Kd.S_reads' HX.out.row)
   have z0:wr.cell? ⟨g,0,none⟩=some (.slice A st.l.length c):=(blk_cell HX.out.box 0).trans rfl
   have hln:st.l.length≤1073741824:=by have:=HI.out.len;omega
   have HKL:=Aside0.mk hend
   clear hend
   by_cases c1:st.an > 0
   ·have c1b:decide (0<st.an)=true:=decide_eq_true c1
    have HU:=Aside0.mk (show parseU s=([],(k:Int)+1,2) by rw [HQ2.out,if_pos (.inl c1)])
    have kx:IntKind.i64.wrap ((L.length:Int)+1)=(L.length:Int)+1:=IntWalk.i64_in _ (by omega)
    clear c1 z0
    go_wp2
    go_ret3
    exact ⟨none,0,by rw [HU.out,HKL.out];rfl,by rw [HU.out];exact Nat.le_refl _,by rw [HU.out];exact Kd.C_nil _ _,FIN.out _ HX.out.bel⟩
   ·have c1b:decide (0<st.an)=false:=decide_eq_false c1
    by_cases c2:st.bn > 0
    ·have c2b:decide (0<st.bn)=true:=decide_eq_true c2
     have HU:=Aside0.mk (show parseU s=([],(k:Int)+1,2) by rw [HQ2.out,if_pos (.inr c2)])
     have kx:IntKind.i64.wrap ((L.length:Int)+1)=(L.length:Int)+1:=IntWalk.i64_in _ (by omega)
     clear c1 c2 z0
     go_wp2
     go_ret3
     exact ⟨none,0,by rw [HU.out,HKL.out];rfl,by rw [HU.out];exact Nat.le_refl _,by rw [HU.out];exact Kd.C_nil _ _,FIN.out _ HX.out.bel⟩
    ·have c2b:decide (0<st.bn)=false:=decide_eq_false c2
     have HU:=Aside0.mk (show parseU s=(st.l,0,0) by rw [HQ2.out,if_neg (fun h=>h.elim c1 c2)])
     clear c1 c2
     go_wp2_with (go_at_call 33;(with_reducible refine (clip_calls A st.l.length c HRD.out.2.1 (by omega) _).mono ?_);rintro e w4 ⟨rfl,rfl⟩)
     go_ret3
     exact ⟨A,st.l.length,by rw [HU.out];rfl,by rw [HU.out];exact Nat.le_refl _,by rw [HU.out];exact HRD.out.2.2,FIN.out _ HX.out.bel⟩
  ·have hxl:k<L.length:=by have:=HB.out;omega
   obtain ⟨gk',HGk⟩:∃ m,Aside0 (gk=m+1):=⟨gk - 1,⟨by have:=HB.out;omega⟩⟩
   have f2:decide (k<L.length)=true:=decide_eq_true hxl
   have hC:=(Kd.R_reads' (Kd.R_keep HRL.out HX.out.bel.1 (fun _ h=>h.2))).2.2
   obtain ⟨ad,ea,hw1⟩:=at_textA hC k hxl
   cases ea
   obtain ⟨t,ht⟩:∃ t,t=L[k]:=⟨_,rfl⟩
   rw [← ht] at hw1
   have HT:=Aside0.mk (show L.drop k=t :: L.drop (k+1) by rw [ht];exact List.drop_eq_getElem_cons hxl)
   have HTG:=Aside0.mk (show 0<t.size∧t.size≤s.size by rw [ht];exact HG.out _ (List.getElem_mem hxl))
   have HXL:=Aside0.mk hxl
   have kx:IntKind.i64.wrap ((k:Int)+1)=(k:Int)+1:=IntWalk.i64_in _ (by omega)
   clear hend ht hC
   by_cases c1:t=openB∧st.bare=false
   ·as_aux_lemma =>
    obtain ⟨m,x,hm,hx,hxk,hxg,hxne⟩:=HI.out.last (.inr (.inr c1.2))
    obtain ⟨q,hq⟩:∃ q,x.f4.length=q+1:=⟨x.f4.length - 1,by have:=List.length_pos_iff.2 (hxne c1.2);omega⟩
    have HST:=Aside0.mk (show stepP st t=some ⟨chopL st.l,st.an,st.bn,true⟩ by rw [stepP,if_pos c1])
    have HI2:=Aside0.mk (HI.out.step HTG.out.1 HTG.out.2 HST.out)
    have HQ3:=Aside0.mk (show parseL (L.drop (k+1)) (k+1) ⟨chopL st.l,st.an,st.bn,true⟩=parseU s by rw [← HQ.out,HT.out,parseL,HST.out])
    have HCL:=Aside0.mk (show chopL st.l=st.l.set m { x with f4:=x.f4.set q (chopB (rdOf ByteArray.empty x.f4 q)) } by rw [chopL,hm,Nat.add_sub_cancel,hx];show st.l.set m (chopH x)=_;rw [chopH,hq,Nat.add_sub_cancel])
    have CC:=Aside0.mk (cut_yes w2 g v st.an st.bn (nextF st.an st.bn) st.l m q x wr (c1.2 ▸ HX.out) hm hx hq (by have:=HI.out.len;omega) (by omega) (by
     have hqm:q<x.f4.length:=by omega
     rw [rdS_at hqm];have:=(hxg _ (List.getElem_mem hqm)).2.1;have:=HS.out;omega))
    obtain ⟨rfl,hbr⟩:=c1
    clear hm hx hxk hxg hxne hq hbr
    go_wp2_with (go_at_call 32;(with_reducible refine CC.out.mono ?_);rintro e w3 ⟨rfl,h3⟩;rw [← HCL.out] at h3;have HY:=Aside0.mk h3;clear h3)
    go_roundg gk'
    case measure=>have:=HGk.out;omega
    case rel=>exact ⟨k+1,⟨chopL st.l,st.an,st.bn,true⟩,v,by go_num,⟨by have:=HB.out;have:=HGk.out;have:=HXL.out;omega⟩,HQ3,HI2,HY⟩
   ·have CN:=Aside0.mk (cut_no w2 g v st.an st.bn st.bare (nextF st.an st.bn) st.l t wr HX.out (by
     by_cases e:t=openB
     ·right;cases hbr:st.bare with
      | true=>rfl
      | false=>exact absurd ⟨e,hbr⟩ c1
     ·exact .inl e))
    have HLW:=Aside0.mk (HL.out.below (FIN.out _ HX.out.bel))
    by_cases c2:st.an=0∧st.bn=0
    ·have HXH:=Aside0.mk (show RBox w2 g v st.an st.bn st.bare 60 st.l wr by have h_:=HX.out;rwa [nextF,if_pos c2] at h_)
     have z4:wr.cell? ⟨g,4,none⟩=some (.func (.func 60) #[.pointer (some ⟨g,0,none⟩)] #[]):=(blk_cell HXH.out.box 4).trans rfl
     have CH:=Aside0.mk (head_calls w2 g v st.an st.bn st.bare 60 st.l t wr HXH.out HLW.out (by have:=HTG.out.2;have:=HS.out;omega) (by have:=HI.out.len;omega))
     rcases hhd:headB t with _|hd
     ·as_aux_lemma =>
      have HST:=Aside0.mk (show stepP st t=none by rw [stepP,if_neg c1,if_pos c2,hhd];rfl)
      have HU:=Aside0.mk (show parseU s=([],(k:Int)+1,3) by rw [← HQ.out,HT.out,parseL,HST.out])
      have CH2:=Aside0.mk (show Calls Tryd.prog 60 #[.pointer (some ⟨g,0,none⟩),.string t] wr fun e w'=>e=.returned (.bool false)∧Keep1 w2 g w' from CH.out.mono fun e w' h=>⟨by rw [h.1,hhd];rfl,h.2.1⟩)
      clear c1 c2 hhd CH
      go_wp2_with (first
       | (go_at_call 32;(with_reducible refine CN.out.mono ?_);rintro e w3 ⟨rfl,rfl⟩)
       | (go_at_call 60;(with_reducible refine CH2.out.mono ?_);rintro e w4 ⟨rfl,h4⟩;have HK3:=Aside0.mk h4;clear h4))
      go_ret3
      exact ⟨none,0,by rw [HU.out];rfl,by rw [HU.out];exact Nat.le_refl _,by rw [HU.out];exact Kd.C_nil _ _,FIN.out _ HK3.out⟩
     ·as_aux_lemma =>
      have HST:=Aside0.mk (show stepP st t=some ⟨st.l++[hd],hd.f1,hd.f3,true⟩ by rw [stepP,if_neg c1,if_pos c2,hhd];rfl)
      have HI2:=Aside0.mk (HI.out.step HTG.out.1 HTG.out.2 HST.out)
      have HQ3:=Aside0.mk (show parseL (L.drop (k+1)) (k+1) ⟨st.l++[hd],hd.f1,hd.f3,true⟩=parseU s by rw [← HQ.out,HT.out,parseL,HST.out])
      have CH2:=Aside0.mk (show Calls Tryd.prog 60 #[.pointer (some ⟨g,0,none⟩),.string t] wr fun e w'=>e=.returned (.bool true)∧∃ v,RBox w2 g v hd.f1 hd.f3 true (nextF hd.f1 hd.f3) (st.l++[hd]) w' from CH.out.mono fun e w' h=>⟨by rw [h.1,hhd];rfl,h.2.2 hd hhd⟩)
      clear c1 c2 hhd CH
      go_wp2_with (first
       | (go_at_call 32;(with_reducible refine CN.out.mono ?_);rintro e w3 ⟨rfl,rfl⟩)
       | (go_at_call 60;(with_reducible refine CH2.out.mono ?_);rintro e w4 ⟨rfl,v4,h4⟩;have HY:=Aside0.mk h4;clear h4))
      go_roundg gk'
      case measure=>have:=HGk.out;omega
      case rel=>exact ⟨k+1,⟨st.l++[hd],hd.f1,hd.f3,true⟩,v4,by go_num,⟨by have:=HB.out;have:=HGk.out;have:=HXL.out;omega⟩,HQ3,HI2,HY⟩
    ·have HXH:=Aside0.mk (show RBox w2 g v st.an st.bn st.bare 59 st.l wr by have h_:=HX.out;rwa [nextF,if_neg c2] at h_)
     have z4:wr.cell? ⟨g,4,none⟩=some (.func (.func 59) #[.pointer (some ⟨g,0,none⟩)] #[]):=(blk_cell HXH.out.box 4).trans rfl
     obtain ⟨m,x,hm,hx,hxk,hxg,hxne⟩:=HI.out.last (by
      by_cases h0:st.an=0
      ·exact .inr (.inl fun hb0=>c2 ⟨h0,hb0⟩)
      ·exact .inl h0)
     have CH:=Aside0.mk (line_calls w2 g v st.an st.bn st.bare 59 st.l m x t (closedL t.data.toList) wr HXH.out hm hx (by have:=HI.out.len;omega) (by omega) (fun u hu=>(hxg u hu).1) HTG.out.1 HI.out.a0 (by have:=HI.out.a1;omega) HI.out.b0 (by have:=HI.out.b1;omega) (Closed_some t (by have:=HTG.out.2;have:=HS.out;omega)))
     have hsx:st.l[st.l.length - 1]?=some x:=by rw [hm,Nat.add_sub_cancel];exact hx
     by_cases c3:lineR (wentB x.f4) (closedL t.data.toList) (bt t 0) st.an st.bn=true
     ·as_aux_lemma =>
      obtain ⟨a,b,hst,_,_,_⟩:=lineR_some c3
      have HST:=Aside0.mk (show stepP st t=some ⟨addL st.l m t,a,b,false⟩ by rw [stepP,if_neg c1,if_neg c2,hsx];show (if lineR _ _ _ _ _=true then _ else _)=_;rw [if_pos c3,hst,hm,Nat.add_sub_cancel];rfl)
      have HI2:=Aside0.mk (HI.out.step HTG.out.1 HTG.out.2 HST.out)
      have HQ3:=Aside0.mk (show parseL (L.drop (k+1)) (k+1) ⟨addL st.l m t,a,b,false⟩=parseU s by rw [← HQ.out,HT.out,parseL,HST.out])
      have CH2:=Aside0.mk (show Calls Tryd.prog 59 #[.pointer (some ⟨g,0,none⟩),.string t] wr fun e w'=>e=.returned (.bool true)∧∃ v,RBox w2 g v a b false (nextF a b) (addL st.l m t) w' from CH.out.mono fun e w' h=>⟨by rw [h.1,c3],h.2.2 a b hst⟩)
      clear c1 c2 c3 hst CH hm hx hxk hxg hxne hsx
      go_wp2_with (first
       | (go_at_call 32;(with_reducible refine CN.out.mono ?_);rintro e w3 ⟨rfl,rfl⟩)
       | (go_at_call 59;(with_reducible refine CH2.out.mono ?_);rintro e w4 ⟨rfl,v4,h4⟩;have HY:=Aside0.mk h4;clear h4))
      go_roundg gk'
      case measure=>have:=HGk.out;omega
      case rel=>exact ⟨k+1,⟨addL st.l m t,a,b,false⟩,v4,by go_num,⟨by have:=HB.out;have:=HGk.out;have:=HXL.out;omega⟩,HQ3,HI2,HY⟩
     ·as_aux_lemma =>
      have HST:=Aside0.mk (show stepP st t=none by rw [stepP,if_neg c1,if_neg c2,hsx];show (if lineR _ _ _ _ _=true then _ else _)=_;rw [if_neg c3])
      have HU:=Aside0.mk (show parseU s=([],(k:Int)+1,3) by rw [← HQ.out,HT.out,parseL,HST.out])
      have CH2:=Aside0.mk (show Calls Tryd.prog 59 #[.pointer (some ⟨g,0,none⟩),.string t] wr fun e w'=>e=.returned (.bool false)∧Keep1 w2 g w' from CH.out.mono fun e w' h=>⟨by rw [h.1,Bool.eq_false_iff.2 c3],h.2.1⟩)
      clear c1 c2 c3 CH hm hx hxk hxg hxne hsx
      go_wp2_with (first
       | (go_at_call 32;(with_reducible refine CN.out.mono ?_);rintro e w3 ⟨rfl,rfl⟩)
       | (go_at_call 59;(with_reducible refine CH2.out.mono ?_);rintro e w4 ⟨rfl,h4⟩;have HK3:=Aside0.mk h4;clear h4))
      go_ret3
      exact ⟨none,0,by rw [HU.out];rfl,by rw [HU.out];exact Nat.le_refl _,by rw [HU.out];exact Kd.C_nil _ _,FIN.out _ HK3.out⟩
end Go.Proofs.YtamojbfmphainaaDoor.Pr
-- shrunk
/-
strings.Builder's copyCheck and WriteString, walked (this translation's copyCheck ends its other way in a refusal, so the kit's contract does not fit it).
-/
namespace Go.Proofs.YtamojbfmphainaaDoor.Pr
open Go.RowKit Go.Shelf Go.Proofs.YtamojbfmphainaaDoorW.PrintWords Go.Proofs.YtamojbfmphainaaDoorW.PrintLast Go.Proofs.YtamojbfmphainaaDoorW.PrintMore
set_option maxRecDepth 100000 in
set_option maxHeartbeats 1000000 in
theorem copyCheck_used (b:Nat) (w:World) (h0:w.cell? ⟨b,0,none⟩=some (.pointer (some ⟨b,0,none⟩))) :
  Calls Tryd.prog 54 #[.pointer (some ⟨b,0,none⟩)] w fun e w'=>e=.returned (.tuple #[])∧w'=w:=by
 have X:=Tryd.Builder_Extra_169
 obtain ⟨j,hj,_⟩:=Option.map_eq_some_iff.1 X.sizeBuilder
 go_enter Tryd.func54,Tryd.ntmps54
 go_wp2
 rw [Lib.run_neq_ptr_same w _ Tryd.underlying44 hj]
 go_wp2
 go_end0
 exact ⟨rfl,rfl⟩
set_option maxRecDepth 100000 in
set_option maxHeartbeats 1000000 in
theorem copyCheck_fresh (b:Nat) (w:World) (h0:w.cell? ⟨b,0,none⟩=some (.pointer none)) (hsh:w.shape? b=some (47,2)) (hfz:w.frozen? ⟨b,0,none⟩=false) :
  Calls Tryd.prog 54 #[.pointer (some ⟨b,0,none⟩)] w fun e w'=>e=.returned (.tuple #[])∧w'=w.setCell ⟨b,0,none⟩ (.pointer (some ⟨b,0,none⟩)):=by
 have X:=Tryd.Builder_Extra_169
 obtain ⟨j,hj,hjs⟩:=Option.map_eq_some_iff.1 X.sizeBuilder
 go_enter Tryd.func54,Tryd.ntmps54
 go_wp2
 rw [Lib.run_to_unsafe w ⟨b,0,none⟩ Tryd.underlying44 Tryd.underlying96 hj (by rw [hjs];decide) hsh (Nat.zero_lt_succ 1)]
 simp only [Result.andThen]
 rw [Oper.upon_value]
 go_wp2
 rw [run_callFunc_extern Tryd.func72 (by kernel_rfl) (by kernel_rfl) (by kernel_rfl) (e:=Extern.AbiNoEscape.same) (by kernel_rfl)]
 rw [Lib.run_noEscape]
 simp only [Result.andThen]
 rw [Oper.upon_value]
 go_wp2
 rw [Lib.run_from_unsafe w ⟨b,0,none⟩ Tryd.underlying96 Tryd.underlying44 hj hsh X.liesBuilder]
 simp only [Result.andThen]
 rw [Oper.upon_value]
 go_wp2
 go_end0
 exact ⟨rfl,rfl⟩
theorem bld_copyCheck (B b:Nat) (bs:List Value) (w:World) (h:Lib.IsBuilderF 47 5 B b bs w) :
  Calls Tryd.prog 54 #[.pointer (some ⟨b,0,none⟩)] w fun e w'=>e=.returned (.tuple #[])∧(Lib.BuilderAtF 47 5 B b (.pointer (some ⟨b,0,none⟩)) bs w'∧Below B w w'∧Lib.OthersKept 5 (some b) w w'):=by
 rcases h with h|h
 ·refine (copyCheck_fresh b w h.cell0 h.shape h.frozen0).mono ?_
  rintro e w' ⟨rfl,rfl⟩
  exact ⟨rfl,h.used _,(Below.refl B w).setCell (p:=⟨b,0,none⟩) h.1 _,(Lib.OthersKept.refl _ _ w).setCell ⟨b,0,none⟩ rfl _⟩
 ·refine (copyCheck_used b w h.cell0).mono ?_
  rintro e w' ⟨rfl,rfl⟩
  exact ⟨rfl,h,Below.refl B _,Lib.OthersKept.refl _ _ _⟩
set_option maxHeartbeats 2000000 in
set_option maxRecDepth 100000 in
theorem bld_write (B b:Nat) (bs:List Value) (s:ByteArray) (w:World) (h:Lib.IsBuilderF 47 5 B b bs w) (hlen:bs.length+s.size≤140737488355328) (hBw:B≤w.heap.size) :
  Calls Tryd.prog 23 #[.pointer (some ⟨b,0,none⟩),.string s] w fun e w'=>e=.returned (.tuple #[.int .i64 s.size,.nilIface])∧(Lib.IsBuilderF 47 5 B b (bs++Lib.strCells s) w'∧Below B w w'∧Lib.OthersKept 5 (some b) w w'):=by
 have X:=Tryd.Builder_Extra_169
 obtain ⟨i0,hi,hz0,hz1,hz2⟩:=info_parts X.infoByte
 go_enter Tryd.func23,Tryd.ntmps23
 go_wp2_with (go_at_call 54;refine (bld_copyCheck B b bs _ h).mono ?_)
 rintro e w1 ⟨rfl,h1,hb1,hk1⟩
 obtain ⟨hB,v,hbk,hown,hne⟩:=h1
 have c0:w1.cell? ⟨b,0,none⟩=some (.pointer (some ⟨b,0,none⟩)):=by rw [Lib.cell_of_heap hbk];rfl
 have c1:w1.cell? ⟨b,1,none⟩=some v:=by rw [Lib.cell_of_heap hbk];rfl
 go_wp2_with (at_builtin;refine Lib.wpList_append_own_stringF _ rfl _ _ 45 9 rfl B 5 i0 Tryd.underlying45 Tryd.underlying9 hi hz0 hz1 hz2 _ _ _ rfl hown s rfl ?c3 ?c4 ?c5 ?_)
 case c3=>unfold maxLen;omega
 case c4=>omega
 case c5=>have:=hb1.size;omega
 intro v' w2 hown' hgrow _
 have hlt:b<w1.heap.size:=by
  rcases Nat.lt_or_ge b w1.heap.size with h'|h'
  ·exact h'
  ·simp [Array.getElem?_eq_none h'] at hbk
 have hb2:w2.heap[b]?=some (.cells #[.pointer (some ⟨b,0,none⟩),v] 47 (0,0)):=by
  rw [hgrow.block b hlt (fun e=>hne e.symm)]
  exact hbk
 have d0:w2.cell? ⟨b,0,none⟩=some (.pointer (some ⟨b,0,none⟩)):=by rw [Lib.cell_of_heap hb2];rfl
 have d1:w2.cell? ⟨b,1,none⟩=some v:=by rw [Lib.cell_of_heap hb2];rfl
 have f1:w2.frozen? ⟨b,1,none⟩=false:=Lib.frozen_of_heap hb2 1
 obtain ⟨ao,n',cap,rfl⟩:∃ ao n' cap,v'=.slice ao n' cap:=by
  rcases hown'.2 with ⟨hv,_⟩|⟨g,cap,cur,fz,hv,_⟩
  ·exact ⟨_,_,_,hv⟩
  ·exact ⟨_,_,_,hv⟩
 go_wp2
 go_ret2
 refine ⟨rfl,.inr ?_,?_,(hk1.grown hgrow (Lib.ownsRowF_kind hown)).setCell ⟨b,1,none⟩ rfl _⟩
 ·exact Lib.BuilderAtF.put (T:=47) (e:=5) hB hb2 (bs':=bs++Lib.strCells s) (by simpa [Lib.strCells_length] using hown') X.neB5
 ·exact (hb1.grown hgrow (by have:=hb1.size;omega) (fun k hk=>(hown.lt k hk).1)).setCell (p:=⟨b,1,none⟩) hB _
end Go.Proofs.YtamojbfmphainaaDoor.Pr
-- shrunk
-- written by a program of this session's (a turned copy of the kit's printer); Lean checks it
namespace Go.Proofs.YtamojbfmphainaaDoor.Pr
open Go.RowKit Go.Proofs.YtamojbfmphainaaDoorW.PrintWords Go.Proofs.YtamojbfmphainaaDoorW.PrintLast Go.Proofs.YtamojbfmphainaaDoorW.PrintMore
attribute [local go_sem] max2_int min2_int max_two min_two max_three min_three max_four min_four   -- for this text's walks alone

def stringslite_TrimSuffix.f (a0:ByteArray) (a1:ByteArray):Option (ByteArray):=(stringslite_HasSuffix.f a0 a1).bind fun t101=>(if t101=true then (if 0≤(wrap64 ((a0.size:Int) - (a1.size:Int))) then (if (wrap64 ((a0.size:Int) - (a1.size:Int)))≤(a0.size:Int) then (some (a0.extract 0 ((wrap64 ((a0.size:Int) - (a1.size:Int))):Int).toNat)) else (none)) else (none)) else (some a0))
set_option maxHeartbeats 8000000 in
set_option maxRecDepth 100000 in
theorem stringslite_TrimSuffix.calls (a0:ByteArray) (a1:ByteArray) (r:ByteArray) (w:World) (h:stringslite_TrimSuffix.f a0 a1=some r) :
  Calls Tryd.prog 79 #[.string a0,.string a1] w fun e w'=>e=.returned (.string r)∧Drawn0 w w':=by
 have H:((stringslite_HasSuffix.f a0 a1).bind fun t101=>(if t101=true then (if 0≤(wrap64 ((a0.size:Int) - (a1.size:Int))) then (if (wrap64 ((a0.size:Int) - (a1.size:Int)))≤(a0.size:Int) then (some (a0.extract 0 ((wrap64 ((a0.size:Int) - (a1.size:Int))):Int).toNat)) else (none)) else (none)) else (some a0)))=some r:=h
 clear h
 replace H:=Option.bind_eq_some_iff.mp H
 obtain ⟨t101,A30,H⟩:=H
 replace H:(if t101=true then (if 0≤(wrap64 ((a0.size:Int) - (a1.size:Int))) then (if (wrap64 ((a0.size:Int) - (a1.size:Int)))≤(a0.size:Int) then (some (a0.extract 0 ((wrap64 ((a0.size:Int) - (a1.size:Int))):Int).toNat)) else (none)) else (none)) else (some a0))=some r:=H
 have A3:=Aside0.mk A30
 clear A30
 by_cases c4:t101=true
 ·subst c4
  have H1:(if 0≤(wrap64 ((a0.size:Int) - (a1.size:Int))) then (if (wrap64 ((a0.size:Int) - (a1.size:Int)))≤(a0.size:Int) then (some (a0.extract 0 ((wrap64 ((a0.size:Int) - (a1.size:Int))):Int).toNat)) else (none)) else (none))=some r:=by rw [if_pos rfl] at H;exact H
  clear H
  have H:=H1
  clear H1
  obtain ⟨ji5,hji5⟩:∃ j_:Int,(wrap64 ((a0.size:Int) - (a1.size:Int)))=j_:=⟨_,rfl⟩
  replace H:(if 0≤(ji5) then (if (ji5)≤(a0.size:Int) then (some (a0.extract 0 ((ji5):Int).toNat)) else (none)) else (none))=some r:=by first|(rw [hji5] at H;exact H)|(simp only [hji5] at H ⊢;exact H)
  (try rw [hji5] at A3)
  have hji5w:(IntKind.i64.wrap ((a0.size:Int) - (a1.size:Int)))=ji5:=(i64_w _).trans hji5
  by_cases c6:0≤(ji5)
  ·rw [if_pos c6] at H
   have c6b0:=eq_true c6
   have c6b1:decide (0≤(ji5))=true:=decide_eq_true c6
   clear c6
   by_cases c7:(ji5)≤(a0.size:Int)
   ·rw [if_pos c7] at H
    have c7b0:=eq_true c7
    have c7b1:decide ((ji5)≤(a0.size:Int))=true:=decide_eq_true c7
    clear c7
    obtain rfl:=Option.some.inj H
    go_enter Tryd.func79,Tryd.ntmps79
    go_wp2_with (first|((with_reducible refine gate_callee (f:=74) rfl ?_);refine goesL_ (some 7) rfl rfl Tryd.func74 (by kernel_rfl) rfl #[.string a0,.string a1] rfl (by (try simp only [List.map_toArray,List.map_cons,List.map_nil]);first|done|rfl|(simp only [List.length_drop,List.length_take];rfl)) ?_;(with_reducible refine (stringslite_HasSuffix.calls a0 a1 true _ A3.out).mono ?_);rintro e w' ⟨rfl,⟨nd,rfl⟩⟩;refine ⟨_,rfl,?_⟩))
    go_ret
    exact ⟨by first|rfl|(simp;done)|(simp only [← hji5]<;>(first|rfl|simp))|(simp [*];done),by repeat (first|exact Drawn0.refl _|apply Drawn0.step)⟩
   ·rw [if_neg c7] at H
    exact absurd H (by simp)
  ·rw [if_neg c6] at H
   exact absurd H (by simp)
 ·replace c4:=Bool.eq_false_iff.mpr c4
  subst c4
  have H1:(some a0)=some r:=by rw [if_neg (show ¬ (false=true) by decide)] at H;exact H
  clear H
  have H:=H1
  clear H1
  obtain rfl:=Option.some.inj H
  go_enter Tryd.func79,Tryd.ntmps79
  go_wp2_with (first|((with_reducible refine gate_callee (f:=74) rfl ?_);refine goesL_ (some 7) rfl rfl Tryd.func74 (by kernel_rfl) rfl #[.string a0,.string a1] rfl (by (try simp only [List.map_toArray,List.map_cons,List.map_nil]);first|done|rfl|(simp only [List.length_drop,List.length_take];rfl)) ?_;(with_reducible refine (stringslite_HasSuffix.calls a0 a1 false _ A3.out).mono ?_);rintro e w' ⟨rfl,⟨nd,rfl⟩⟩;refine ⟨_,rfl,?_⟩))
  go_ret
  exact ⟨by first|rfl|(simp;done)|(simp [*];done),by repeat (first|exact Drawn0.refl _|apply Drawn0.step)⟩

end Go.Proofs.YtamojbfmphainaaDoor.Pr
-- shrunk
-- written by a program of this session's (a turned copy of the kit's printer); Lean checks it
namespace Go.Proofs.YtamojbfmphainaaDoor.Pr
open Go.RowKit Go.Proofs.YtamojbfmphainaaDoorW.PrintWords Go.Proofs.YtamojbfmphainaaDoorW.PrintLast Go.Proofs.YtamojbfmphainaaDoorW.PrintMore
attribute [local go_sem] max2_int min2_int max_two min_two max_three min_three max_four min_four   -- for this text's walks alone

def strings_TrimSuffix.f (a0:ByteArray) (a1:ByteArray):Option (ByteArray):=(stringslite_TrimSuffix.f a0 a1).bind fun t102=>(some t102)
set_option maxHeartbeats 8000000 in
set_option maxRecDepth 100000 in
theorem strings_TrimSuffix.calls (a0:ByteArray) (a1:ByteArray) (r:ByteArray) (w:World) (h:strings_TrimSuffix.f a0 a1=some r) :
  Calls Tryd.prog 61 #[.string a0,.string a1] w fun e w'=>e=.returned (.string r)∧Drawn0 w w':=by
 have H:((stringslite_TrimSuffix.f a0 a1).bind fun t102=>(some t102))=some r:=h
 clear h
 replace H:=Option.bind_eq_some_iff.mp H
 obtain ⟨t102,A30,H⟩:=H
 replace H:(some t102)=some r:=H
 have A3:=Aside0.mk A30
 clear A30
 obtain rfl:=Option.some.inj H
 go_enter Tryd.func61,Tryd.ntmps61
 go_wp2_with (first|((with_reducible refine gate_callee (f:=79) rfl ?_);refine goesL_ (some 7) rfl rfl Tryd.func79 (by kernel_rfl) rfl #[.string a0,.string a1] rfl (by (try simp only [List.map_toArray,List.map_cons,List.map_nil]);first|done|rfl|(simp only [List.length_drop,List.length_take];rfl)) ?_;(with_reducible refine (stringslite_TrimSuffix.calls a0 a1 t102 _ A3.out).mono ?_);rintro e w' ⟨rfl,⟨nd,rfl⟩⟩;refine ⟨_,rfl,?_⟩))
 go_ret
 exact ⟨by first|rfl|(simp;done)|(simp [*];done),by repeat (first|exact Drawn0.refl _|apply Drawn0.step)⟩




end Go.Proofs.YtamojbfmphainaaDoor.Pr
-- shrunk
-- written by a program of this session's (a turned copy of the kit's printer); Lean checks it
namespace Go.Proofs.YtamojbfmphainaaDoor.Pr
open Go.RowKit Go.Proofs.YtamojbfmphainaaDoorW.PrintWords Go.Proofs.YtamojbfmphainaaDoorW.PrintLast Go.Proofs.YtamojbfmphainaaDoorW.PrintMore
attribute [local go_sem] max2_int min2_int max_two min_two max_three min_three max_four min_four   -- for this text's walks alone

def strings_Contains.f (a0:ByteArray) (a1:ByteArray):Option (Bool):=(strings_Index.f a0 a1).bind fun t105=>(some (decide (t105 ≥ 0)))
set_option maxHeartbeats 8000000 in
set_option maxRecDepth 100000 in
theorem strings_Contains.calls (a0:ByteArray) (a1:ByteArray) (r:Bool) (w:World) (h:strings_Contains.f a0 a1=some r) :
  Calls Tryd.prog 71 #[.string a0,.string a1] w fun e w'=>e=.returned (.bool r)∧Drawn0 w w':=by
 have H:((strings_Index.f a0 a1).bind fun t105=>(some (decide (t105 ≥ 0))))=some r:=h
 clear h
 replace H:=Option.bind_eq_some_iff.mp H
 obtain ⟨t105,A30,H⟩:=H
 replace H:(some (decide (t105 ≥ 0)))=some r:=H
 have A3:=Aside0.mk A30
 clear A30
 obtain rfl:=Option.some.inj H
 go_enter Tryd.func71,Tryd.ntmps71
 go_wp2_with (first|((with_reducible refine gate_callee (f:=65) rfl ?_);refine goesL_ (some 7) rfl rfl Tryd.func65 (by kernel_rfl) rfl #[.string a0,.string a1] rfl (by (try simp only [List.map_toArray,List.map_cons,List.map_nil]);first|done|rfl|(simp only [List.length_drop,List.length_take];rfl)) ?_;(with_reducible refine (strings_Index.calls a0 a1 t105 _ A3.out).mono ?_);rintro e w' ⟨rfl,⟨nd,rfl⟩⟩;refine ⟨_,rfl,?_⟩))
 go_ret
 exact ⟨by first|rfl|(simp;done)|(simp [*];done),by repeat (first|exact Drawn0.refl _|apply Drawn0.step)⟩

end Go.Proofs.YtamojbfmphainaaDoor.Pr
-- shrunk
-- written by a program of this session's (a turned copy of the kit's printer); Lean checks it
namespace Go.Proofs.YtamojbfmphainaaDoor.Pr
open Go.RowKit Go.Proofs.YtamojbfmphainaaDoorW.PrintWords Go.Proofs.YtamojbfmphainaaDoorW.PrintLast Go.Proofs.YtamojbfmphainaaDoorW.PrintMore
attribute [local go_sem] max2_int min2_int max_two min_two max_three min_three max_four min_four   -- for this text's walks alone

def unified_plain.f (a0:ByteArray):Option (Bool):=(strings_TrimSuffix.f a0 (⟨#[10]⟩:ByteArray)).bind fun t106=>((strings_Contains.f t106 (⟨#[10]⟩:ByteArray)).bind fun t107=>(some (!t107)))
set_option maxHeartbeats 8000000 in
set_option maxRecDepth 100000 in
theorem unified_plain.calls (a0:ByteArray) (r:Bool) (w:World) (h:unified_plain.f a0=some r) :
  Calls Tryd.prog 51 #[.string a0] w fun e w'=>e=.returned (.bool r)∧Drawn0 w w':=by
 have H:((strings_TrimSuffix.f a0 (⟨#[10]⟩:ByteArray)).bind fun t106=>((strings_Contains.f t106 (⟨#[10]⟩:ByteArray)).bind fun t107=>(some (!t107))))=some r:=h
 clear h
 replace H:=Option.bind_eq_some_iff.mp H
 obtain ⟨t106,A20,H⟩:=H
 replace H:((strings_Contains.f t106 (⟨#[10]⟩:ByteArray)).bind fun t107=>(some (!t107)))=some r:=H
 have A2:=Aside0.mk A20
 clear A20
 replace H:=Option.bind_eq_some_iff.mp H
 obtain ⟨t107,A30,H⟩:=H
 replace H:(some (!t107))=some r:=H
 have A3:=Aside0.mk A30
 clear A30
 obtain rfl:=Option.some.inj H
 go_enter Tryd.func51,Tryd.ntmps51
 go_wp2_with (first|((with_reducible refine gate_callee (f:=61) rfl ?_);refine goesL_ (some 4) rfl rfl Tryd.func61 (by kernel_rfl) rfl #[.string a0,.string (⟨#[10]⟩:ByteArray)] rfl (by (try simp only [List.map_toArray,List.map_cons,List.map_nil]);first|done|rfl|(simp only [List.length_drop,List.length_take];rfl)) ?_;(with_reducible refine (strings_TrimSuffix.calls a0 (⟨#[10]⟩:ByteArray) t106 _ A2.out).mono ?_);rintro e w' ⟨rfl,⟨nd,rfl⟩⟩;refine ⟨_,rfl,?_⟩)|((with_reducible refine gate_callee (f:=71) rfl ?_);refine goesL_ (some 5) rfl rfl Tryd.func71 (by kernel_rfl) rfl #[.string t106,.string (⟨#[10]⟩:ByteArray)] rfl (by (try simp only [List.map_toArray,List.map_cons,List.map_nil]);first|done|rfl|(simp only [List.length_drop,List.length_take];rfl)) ?_;(with_reducible refine (strings_Contains.calls t106 (⟨#[10]⟩:ByteArray) t107 _ A3.out).mono ?_);rintro e w' ⟨rfl,⟨nd,rfl⟩⟩;refine ⟨_,rfl,?_⟩))
 go_ret
 exact ⟨by first|rfl|(simp;done)|(simp [*];done),by repeat (first|exact Drawn0.refl _|apply Drawn0.step)⟩

end Go.Proofs.YtamojbfmphainaaDoor.Pr
-- shrunk
-- written by a program of this session's (a turned copy of the kit's printer); Lean checks it
namespace Go.Proofs.YtamojbfmphainaaDoor.Pr
open Go.RowKit Go.Proofs.YtamojbfmphainaaDoorW.PrintWords Go.Proofs.YtamojbfmphainaaDoorW.PrintLast Go.Proofs.YtamojbfmphainaaDoorW.PrintMore
attribute [local go_sem] max2_int min2_int max_two min_two max_three min_three max_four min_four   -- for this text's walks alone

mutual
def hunk_count.l0:Nat→Int→Int→Bool→List ByteArray→Int→Int→Option (Int × Int × Bool)
 | 0,_,_,_,_,_,_=>none
 | k+1,x2,x3,x5,x8,x9,x10=>if x10<x9 then (if 0≤x10 then (if x10<(x8.length:Int) then (if (rdOf ByteArray.empty x8 x10).toList=([]:List UInt8) then (hunk_count.j1 k x2 x3 (rdOf ByteArray.empty x8 x10) x8 x9 x10 true) else (if 0<((rdOf ByteArray.empty x8 x10).size:Int) then (if (bt (rdOf ByteArray.empty x8 x10) 0)=45 then (hunk_count.j1 k x2 x3 (rdOf ByteArray.empty x8 x10) x8 x9 x10 x5) else (hunk_count.j1 k x2 x3 (rdOf ByteArray.empty x8 x10) x8 x9 x10 false)) else (none))) else (none)) else (none)) else (some (x2,x3,true))
def hunk_count.j1:Nat→Int→Int→ByteArray→List ByteArray→Int→Int→Bool→Option (Int × Int × Bool)
 | 0,_,_,_,_,_,_,_=>none
 | k+1,x2,x3,x7,x8,x9,x10,x23=>if x23=true then (some (0,0,false)) else (if 0<(x7.size:Int) then (if (bt x7 0)=32 then (hunk_count.l0 k (wrap64 (x2+1)) (wrap64 (x3+1)) ((bt x7 0) == 43) x8 x9 (wrap64 (x10+1))) else (if (bt x7 0)=43 then (hunk_count.l0 k x2 (wrap64 (x3+1)) ((bt x7 0) == 43) x8 x9 (wrap64 (x10+1))) else (if (bt x7 0)=45 then (hunk_count.l0 k (wrap64 (x2+1)) x3 ((bt x7 0) == 43) x8 x9 (wrap64 (x10+1))) else (some (0,0,false))))) else (none))
end
def hunk_count.f (k:Nat) (l0:List ByteArray):Option (Int × Int × Bool):=hunk_count.l0 k 0 0 false l0 (l0.length:Int) 0
set_option maxHeartbeats 8000000 in
set_option maxRecDepth 100000 in
theorem hunk_count.calls (k:Nat) (A0:Option Addr) (c0:Nat) (l0:List ByteArray) (r1:Int) (r2:Int) (r3:Bool) (w:World) (hr0:Kd.C Kd.string w A0 l0.length l0) (hc0:l0.length≤c0) (h:hunk_count.f k l0=some (r1,r2,r3)) :
  Calls Tryd.prog 70 #[.slice A0 l0.length c0] w fun e w'=>e=.returned (.tuple #[.int .i64 r1,.int .i64 r2,.bool r3])∧Drawn0 w w':=by
 have HR0:=Aside0.mk hr0
 have HC0:=Aside0.mk hc0
 clear hr0 hc0
 have H:(hunk_count.l0 k 0 0 false l0 (l0.length:Int) 0)=some (r1,r2,r3):=h
 clear h
 have H':=Aside0.mk H
 clear H
 go_enter Tryd.func70,Tryd.ntmps70
 go_wp2
 go_loopg [2,3,5,10] k (fun kq v2 v3 v5 v10 w'=>∃ (x2_1:Int) (x3_1:Int) (x5_1:Bool) (x10_1:Int),v2=.int .i64 x2_1∧v3=.int .i64 x3_1∧v5=.bool x5_1∧v10=.int .i64 x10_1∧Aside0 (hunk_count.l0 kq x2_1 x3_1 x5_1 l0 (l0.length:Int) x10_1=some (r1,r2,r3))∧Aside0 (kq≤k)∧Drawn0 w w')
 case atStart=>exact ⟨(0),(0),(false),(0),(by first|rfl|(simp;done)|(simp [*];done)),(by first|rfl|(simp;done)|(simp [*];done)),(by first|rfl|(simp;done)|(simp [*];done)),(by first|rfl|(simp;done)|(simp [*];done)),H',⟨Nat.le_refl _⟩,by repeat (first|exact Drawn0.refl _|apply Drawn0.step)⟩
 case round =>
  clear H'
  obtain ⟨x2_1,x3_1,x5_1,x10_1,rfl,rfl,rfl,rfl,HA,HK1,⟨m1,rfl⟩⟩:=hrel
  cases gk with
  | zero=>exact absurd HA.out (by simp [hunk_count.l0])
  | succ k1 =>
   have H:=HA.out
   clear HA
   simp only [hunk_count.l0] at H
   by_cases c2:x10_1<(l0.length:Int)
   ·rw [if_pos c2] at H
    have c2b0:decide (x10_1<(l0.length:Int))=true:=decide_eq_true c2
    clear c2
    by_cases c3:0≤x10_1
    ·rw [if_pos c3] at H
     have c3b0:decide (0≤x10_1)=true:=decide_eq_true c3
     clear c3
     by_cases c4:x10_1<(l0.length:Int)
     ·rw [if_pos c4] at H
      have c4b0:decide (x10_1<(l0.length:Int))=true:=decide_eq_true c4
      clear c4
      have HC5:=Aside0.mk H
      clear H
      have p108:0≤(x10_1:Int):=of_decide_eq_true (by first|(with_reducible assumption)|assumption)
      have q108:x10_1<(l0.length:Int):=of_decide_eq_true (by first|(with_reducible assumption)|assumption)
      obtain ⟨ad108,e108,hx108_0⟩:=Kd.at_string HR0.out x10_1 p108 q108
      cases e108
      replace p108:=eq_true p108
      replace q108:=eq_true q108
      go_upto_region 5 with (fail)
      go_cut [23] (fun v23 wc=>∃ (kq:Nat) (x23_4:Bool),v23=.bool x23_4∧Aside0 (hunk_count.j1 kq x2_1 x3_1 (rdOf ByteArray.empty l0 x10_1) l0 (l0.length:Int) x10_1 x23_4=some (r1,r2,r3))∧Aside0 (kq≤k1)∧Drawn0 w wc)
      case first =>
       have H:=HC5.out
       clear HC5
       by_cases c6:(rdOf ByteArray.empty l0 x10_1).toList=([]:List UInt8)
       ·rw [if_pos c6] at H
        have c6b0:((rdOf ByteArray.empty l0 x10_1).toList == ([]:List UInt8))=true:=beq_iff_eq.mpr c6
        have c6b1:((rdOf ByteArray.empty l0 x10_1).toList != ([]:List UInt8))=false:=bne_eq_false_iff_eq.mpr c6
        clear c6
        (first|rw [c6b0]|(simp only [i64_w,i32_w];rw [c6b0])|skip)
        have H':=Aside0.mk H
        clear H
        go_wp2
        go_meet
        case rel=>exact ⟨_,(true),(by first|rfl|(simp;done)|(simp [*];done)),H',⟨by have:=HK1.out;first|omega|exact Nat.le_refl _⟩,by repeat (first|exact Drawn0.refl _|apply Drawn0.step)⟩
       ·rw [if_neg c6] at H
        have c6b0:((rdOf ByteArray.empty l0 x10_1).toList == ([]:List UInt8))=false:=beq_eq_false_iff_ne.mpr c6
        have c6b1:((rdOf ByteArray.empty l0 x10_1).toList != ([]:List UInt8))=true:=bne_iff_ne.mpr c6
        (first|rw [c6b0]|(simp only [i64_w,i32_w];rw [c6b0])|skip)
        by_cases c7:0<((rdOf ByteArray.empty l0 x10_1).size:Int)
        ·rw [if_pos c7] at H
         have c7b0:decide (0<((rdOf ByteArray.empty l0 x10_1).size:Int))=true:=decide_eq_true c7
         have c7b1:decide (0<(rdOf ByteArray.empty l0 x10_1).size)=true:=decide_eq_true (by omega)
         clear c7
         by_cases c9:(bt (rdOf ByteArray.empty l0 x10_1) 0)=45
         ·rw [if_pos c9] at H
          have c9b0:((bt (rdOf ByteArray.empty l0 x10_1) 0) == 45)=true:=beq_iff_eq.mpr c9
          have c9b1:((bt (rdOf ByteArray.empty l0 x10_1) 0) != 45)=false:=bne_eq_false_iff_eq.mpr c9
          clear c9
          have H':=Aside0.mk H
          clear H
          have p8:0≤(0:Int):=(by omega)
          have q8:0<(rdOf ByteArray.empty l0 x10_1).size:=(by have:(0:Int)<((rdOf ByteArray.empty l0 x10_1).size:Int):=of_decide_eq_true (by first|(with_reducible assumption)|assumption);omega)
          have hx8:∀ h:0<(rdOf ByteArray.empty l0 x10_1).size,(((rdOf ByteArray.empty l0 x10_1)[0]'h).toNat:Int)=bt (rdOf ByteArray.empty l0 x10_1) 0:=bt_at (rdOf ByteArray.empty l0 x10_1) 0
          clear p8
          have qi8:(0<((rdOf ByteArray.empty l0 x10_1).size:Int))=True:=eq_true (of_decide_eq_true (by first|(with_reducible assumption)|assumption))
          replace q8:=eq_true q8
          go_wp2
          go_meet
          case rel=>exact ⟨_,(x5_1),(by first|rfl|(simp;done)|(simp [*];done)),H',⟨by have:=HK1.out;first|omega|exact Nat.le_refl _⟩,by repeat (first|exact Drawn0.refl _|apply Drawn0.step)⟩
         ·rw [if_neg c9] at H
          have c9b0:((bt (rdOf ByteArray.empty l0 x10_1) 0) == 45)=false:=beq_eq_false_iff_ne.mpr c9
          have c9b1:((bt (rdOf ByteArray.empty l0 x10_1) 0) != 45)=true:=bne_iff_ne.mpr c9
          have H':=Aside0.mk H
          clear H
          have p8:0≤(0:Int):=(by omega)
          have q8:0<(rdOf ByteArray.empty l0 x10_1).size:=(by have:(0:Int)<((rdOf ByteArray.empty l0 x10_1).size:Int):=of_decide_eq_true (by first|(with_reducible assumption)|assumption);omega)
          have hx8:∀ h:0<(rdOf ByteArray.empty l0 x10_1).size,(((rdOf ByteArray.empty l0 x10_1)[0]'h).toNat:Int)=bt (rdOf ByteArray.empty l0 x10_1) 0:=bt_at (rdOf ByteArray.empty l0 x10_1) 0
          clear p8
          have qi8:(0<((rdOf ByteArray.empty l0 x10_1).size:Int))=True:=eq_true (of_decide_eq_true (by first|(with_reducible assumption)|assumption))
          replace q8:=eq_true q8
          go_wp2
          go_meet
          case rel=>exact ⟨_,(false),(by first|rfl|(simp;done)|(simp [*];done)),H',⟨by have:=HK1.out;first|omega|exact Nat.le_refl _⟩,by repeat (first|exact Drawn0.refl _|apply Drawn0.step)⟩
        ·rw [if_neg c7] at H
         exact absurd H (by simp)
      case rest =>
       clear HC5
       try clear p1
       try clear q1
       try clear hx1
       try clear c2
       try clear c2b0
       try clear p2
       try clear c3
       try clear c3b0
       try clear c4
       try clear c4b0
       try clear c6
       try clear c6b0
       try clear c6b1
       try clear c7
       try clear c7b0
       try clear c7b1
       try clear p8
       try clear q8
       try clear hx8
       try clear qi8
       try clear c9
       try clear c9b0
       try clear c9b1
       try clear hx108_0
       try clear p108
       try clear p8
       try clear q108
       try clear q8
       obtain ⟨kq,x23_4,rfl,HA,HJ4,⟨mc4,rfl⟩⟩:=hcut
       cases kq with
       | zero=>exact absurd HA.out (by simp [hunk_count.j1])
       | succ kj4 =>
        have H:=HA.out
        clear HA
        simp only [hunk_count.j1] at H
        by_cases c10:x23_4=true
        ·subst c10
         have H1:(some (0,0,false))=some (r1,r2,r3):=by rw [if_pos rfl] at H;exact H
         clear H
         have H:=H1
         clear H1
         simp only [Option.some.injEq,Prod.mk.injEq] at H
         obtain ⟨rfl,rfl,rfl⟩:=H
         go_wp2
         go_ret3
         exact ⟨by first|rfl|(simp;done)|(simp [*];done),by repeat (first|exact Drawn0.refl _|apply Drawn0.step)⟩
        ·replace c10:=Bool.eq_false_iff.mpr c10
         subst c10
         have H1:(if 0<((rdOf ByteArray.empty l0 x10_1).size:Int) then (if (bt (rdOf ByteArray.empty l0 x10_1) 0)=32 then (hunk_count.l0 kj4 (wrap64 (x2_1+1)) (wrap64 (x3_1+1)) ((bt (rdOf ByteArray.empty l0 x10_1) 0) == 43) l0 (l0.length:Int) (wrap64 (x10_1+1))) else (if (bt (rdOf ByteArray.empty l0 x10_1) 0)=43 then (hunk_count.l0 kj4 x2_1 (wrap64 (x3_1+1)) ((bt (rdOf ByteArray.empty l0 x10_1) 0) == 43) l0 (l0.length:Int) (wrap64 (x10_1+1))) else (if (bt (rdOf ByteArray.empty l0 x10_1) 0)=45 then (hunk_count.l0 kj4 (wrap64 (x2_1+1)) x3_1 ((bt (rdOf ByteArray.empty l0 x10_1) 0) == 43) l0 (l0.length:Int) (wrap64 (x10_1+1))) else (some (0,0,false))))) else (none))=some (r1,r2,r3):=by rw [if_neg (show ¬ (false=true) by decide)] at H;exact H
         clear H
         have H:=H1
         clear H1
         by_cases c11:0<((rdOf ByteArray.empty l0 x10_1).size:Int)
         ·rw [if_pos c11] at H
          have c11b0:decide (0<((rdOf ByteArray.empty l0 x10_1).size:Int))=true:=decide_eq_true c11
          have c11b1:decide (0<(rdOf ByteArray.empty l0 x10_1).size)=true:=decide_eq_true (by omega)
          clear c11
          by_cases c13:(bt (rdOf ByteArray.empty l0 x10_1) 0)=32
          ·rw [if_pos c13] at H
           have c13b0:((bt (rdOf ByteArray.empty l0 x10_1) 0) == 32)=true:=beq_iff_eq.mpr c13
           have c13b1:((bt (rdOf ByteArray.empty l0 x10_1) 0) != 32)=false:=bne_eq_false_iff_eq.mpr c13
           clear c13
           have H':=Aside0.mk H
           clear H
           have p12:0≤(0:Int):=(by omega)
           have q12:0<(rdOf ByteArray.empty l0 x10_1).size:=(by have:(0:Int)<((rdOf ByteArray.empty l0 x10_1).size:Int):=of_decide_eq_true (by first|(with_reducible assumption)|assumption);omega)
           have hx12:∀ h:0<(rdOf ByteArray.empty l0 x10_1).size,(((rdOf ByteArray.empty l0 x10_1)[0]'h).toNat:Int)=bt (rdOf ByteArray.empty l0 x10_1) 0:=bt_at (rdOf ByteArray.empty l0 x10_1) 0
           clear p12
           have qi12:(0<((rdOf ByteArray.empty l0 x10_1).size:Int))=True:=eq_true (of_decide_eq_true (by first|(with_reducible assumption)|assumption))
           replace q12:=eq_true q12
           have p14:0≤(0:Int):=(by omega)
           have q14:0<(rdOf ByteArray.empty l0 x10_1).size:=(by have:(0:Int)<((rdOf ByteArray.empty l0 x10_1).size:Int):=of_decide_eq_true (by first|(with_reducible assumption)|assumption);omega)
           have hx14:∀ h:0<(rdOf ByteArray.empty l0 x10_1).size,(((rdOf ByteArray.empty l0 x10_1)[0]'h).toNat:Int)=bt (rdOf ByteArray.empty l0 x10_1) 0:=bt_at (rdOf ByteArray.empty l0 x10_1) 0
           clear p14
           have qi14:(0<((rdOf ByteArray.empty l0 x10_1).size:Int))=True:=eq_true (of_decide_eq_true (by first|(with_reducible assumption)|assumption))
           replace q14:=eq_true q14
           go_wp2
           go_roundg kj4
           case measure=>have:=HK1.out;have:=HJ4.out;omega
           case rel=>exact ⟨(wrap64 (x2_1+1)),(wrap64 (x3_1+1)),(((bt (rdOf ByteArray.empty l0 x10_1) 0) == 43)),(wrap64 (x10_1+1)),(by first|rfl|(simp;done)|(simp [*];done)),(by first|rfl|(simp;done)|(simp [*];done)),(by first|rfl|(simp;done)|(simp [*];done)),(by first|rfl|(simp;done)|(simp [*];done)),H',⟨by have:=HK1.out;have:=HJ4.out;omega⟩,by repeat (first|exact Drawn0.refl _|apply Drawn0.step)⟩
          ·rw [if_neg c13] at H
           have c13b0:((bt (rdOf ByteArray.empty l0 x10_1) 0) == 32)=false:=beq_eq_false_iff_ne.mpr c13
           have c13b1:((bt (rdOf ByteArray.empty l0 x10_1) 0) != 32)=true:=bne_iff_ne.mpr c13
           by_cases c15:(bt (rdOf ByteArray.empty l0 x10_1) 0)=43
           ·rw [if_pos c15] at H
            have c15b0:((bt (rdOf ByteArray.empty l0 x10_1) 0) == 43)=true:=beq_iff_eq.mpr c15
            have c15b1:((bt (rdOf ByteArray.empty l0 x10_1) 0) != 43)=false:=bne_eq_false_iff_eq.mpr c15
            clear c15
            have H':=Aside0.mk H
            clear H
            have p12:0≤(0:Int):=(by omega)
            have q12:0<(rdOf ByteArray.empty l0 x10_1).size:=(by have:(0:Int)<((rdOf ByteArray.empty l0 x10_1).size:Int):=of_decide_eq_true (by first|(with_reducible assumption)|assumption);omega)
            have hx12:∀ h:0<(rdOf ByteArray.empty l0 x10_1).size,(((rdOf ByteArray.empty l0 x10_1)[0]'h).toNat:Int)=bt (rdOf ByteArray.empty l0 x10_1) 0:=bt_at (rdOf ByteArray.empty l0 x10_1) 0
            clear p12
            have qi12:(0<((rdOf ByteArray.empty l0 x10_1).size:Int))=True:=eq_true (of_decide_eq_true (by first|(with_reducible assumption)|assumption))
            replace q12:=eq_true q12
            have p16:0≤(0:Int):=(by omega)
            have q16:0<(rdOf ByteArray.empty l0 x10_1).size:=(by have:(0:Int)<((rdOf ByteArray.empty l0 x10_1).size:Int):=of_decide_eq_true (by first|(with_reducible assumption)|assumption);omega)
            have hx16:∀ h:0<(rdOf ByteArray.empty l0 x10_1).size,(((rdOf ByteArray.empty l0 x10_1)[0]'h).toNat:Int)=bt (rdOf ByteArray.empty l0 x10_1) 0:=bt_at (rdOf ByteArray.empty l0 x10_1) 0
            clear p16
            have qi16:(0<((rdOf ByteArray.empty l0 x10_1).size:Int))=True:=eq_true (of_decide_eq_true (by first|(with_reducible assumption)|assumption))
            replace q16:=eq_true q16
            go_wp2
            go_roundg kj4
            case measure=>have:=HK1.out;have:=HJ4.out;omega
            case rel=>exact ⟨(x2_1),(wrap64 (x3_1+1)),(((bt (rdOf ByteArray.empty l0 x10_1) 0) == 43)),(wrap64 (x10_1+1)),(by first|rfl|(simp;done)|(simp [*];done)),(by first|rfl|(simp;done)|(simp [*];done)),(by first|rfl|(simp;done)|(simp [*];done)),(by first|rfl|(simp;done)|(simp [*];done)),H',⟨by have:=HK1.out;have:=HJ4.out;omega⟩,by repeat (first|exact Drawn0.refl _|apply Drawn0.step)⟩
           ·rw [if_neg c15] at H
            have c15b0:((bt (rdOf ByteArray.empty l0 x10_1) 0) == 43)=false:=beq_eq_false_iff_ne.mpr c15
            have c15b1:((bt (rdOf ByteArray.empty l0 x10_1) 0) != 43)=true:=bne_iff_ne.mpr c15
            by_cases c17:(bt (rdOf ByteArray.empty l0 x10_1) 0)=45
            ·rw [if_pos c17] at H
             have c17b0:((bt (rdOf ByteArray.empty l0 x10_1) 0) == 45)=true:=beq_iff_eq.mpr c17
             have c17b1:((bt (rdOf ByteArray.empty l0 x10_1) 0) != 45)=false:=bne_eq_false_iff_eq.mpr c17
             clear c17
             have H':=Aside0.mk H
             clear H
             have p12:0≤(0:Int):=(by omega)
             have q12:0<(rdOf ByteArray.empty l0 x10_1).size:=(by have:(0:Int)<((rdOf ByteArray.empty l0 x10_1).size:Int):=of_decide_eq_true (by first|(with_reducible assumption)|assumption);omega)
             have hx12:∀ h:0<(rdOf ByteArray.empty l0 x10_1).size,(((rdOf ByteArray.empty l0 x10_1)[0]'h).toNat:Int)=bt (rdOf ByteArray.empty l0 x10_1) 0:=bt_at (rdOf ByteArray.empty l0 x10_1) 0
             clear p12
             have qi12:(0<((rdOf ByteArray.empty l0 x10_1).size:Int))=True:=eq_true (of_decide_eq_true (by first|(with_reducible assumption)|assumption))
             replace q12:=eq_true q12
             have p18:0≤(0:Int):=(by omega)
             have q18:0<(rdOf ByteArray.empty l0 x10_1).size:=(by have:(0:Int)<((rdOf ByteArray.empty l0 x10_1).size:Int):=of_decide_eq_true (by first|(with_reducible assumption)|assumption);omega)
             have hx18:∀ h:0<(rdOf ByteArray.empty l0 x10_1).size,(((rdOf ByteArray.empty l0 x10_1)[0]'h).toNat:Int)=bt (rdOf ByteArray.empty l0 x10_1) 0:=bt_at (rdOf ByteArray.empty l0 x10_1) 0
             clear p18
             have qi18:(0<((rdOf ByteArray.empty l0 x10_1).size:Int))=True:=eq_true (of_decide_eq_true (by first|(with_reducible assumption)|assumption))
             replace q18:=eq_true q18
             go_wp2
             go_roundg kj4
             case measure=>have:=HK1.out;have:=HJ4.out;omega
             case rel=>exact ⟨(wrap64 (x2_1+1)),(x3_1),(((bt (rdOf ByteArray.empty l0 x10_1) 0) == 43)),(wrap64 (x10_1+1)),(by first|rfl|(simp;done)|(simp [*];done)),(by first|rfl|(simp;done)|(simp [*];done)),(by first|rfl|(simp;done)|(simp [*];done)),(by first|rfl|(simp;done)|(simp [*];done)),H',⟨by have:=HK1.out;have:=HJ4.out;omega⟩,by repeat (first|exact Drawn0.refl _|apply Drawn0.step)⟩
            ·rw [if_neg c17] at H
             have c17b0:((bt (rdOf ByteArray.empty l0 x10_1) 0) == 45)=false:=beq_eq_false_iff_ne.mpr c17
             have c17b1:((bt (rdOf ByteArray.empty l0 x10_1) 0) != 45)=true:=bne_iff_ne.mpr c17
             simp only [Option.some.injEq,Prod.mk.injEq] at H
             obtain ⟨rfl,rfl,rfl⟩:=H
             have p12:0≤(0:Int):=(by omega)
             have q12:0<(rdOf ByteArray.empty l0 x10_1).size:=(by have:(0:Int)<((rdOf ByteArray.empty l0 x10_1).size:Int):=of_decide_eq_true (by first|(with_reducible assumption)|assumption);omega)
             have hx12:∀ h:0<(rdOf ByteArray.empty l0 x10_1).size,(((rdOf ByteArray.empty l0 x10_1)[0]'h).toNat:Int)=bt (rdOf ByteArray.empty l0 x10_1) 0:=bt_at (rdOf ByteArray.empty l0 x10_1) 0
             clear p12
             have qi12:(0<((rdOf ByteArray.empty l0 x10_1).size:Int))=True:=eq_true (of_decide_eq_true (by first|(with_reducible assumption)|assumption))
             replace q12:=eq_true q12
             go_wp2
             go_ret3
             exact ⟨by first|rfl|(simp;done)|(simp [*];done),by repeat (first|exact Drawn0.refl _|apply Drawn0.step)⟩
         ·rw [if_neg c11] at H
          exact absurd H (by simp)
     ·rw [if_neg c4] at H
      exact absurd H (by simp)
    ·rw [if_neg c3] at H
     exact absurd H (by simp)
   ·rw [if_neg c2] at H
    have c2b0:decide (x10_1<(l0.length:Int))=false:=decide_eq_false c2
    clear c2
    simp only [Option.some.injEq,Prod.mk.injEq] at H
    obtain ⟨rfl,rfl,rfl⟩:=H
    go_wp2
    go_ret3
    exact ⟨by first|rfl|(simp;done)|(simp [*];done),by repeat (first|exact Drawn0.refl _|apply Drawn0.step)⟩

end Go.Proofs.YtamojbfmphainaaDoor.Pr
-- shrunk
-- written by a program of this session's (a turned copy of the kit's printer); Lean checks it
namespace Go.Proofs.YtamojbfmphainaaDoor.Pr
open Go.RowKit Go.Proofs.YtamojbfmphainaaDoorW.PrintWords Go.Proofs.YtamojbfmphainaaDoorW.PrintLast Go.Proofs.YtamojbfmphainaaDoorW.PrintMore
attribute [local go_sem] max2_int min2_int max_two min_two max_three min_three max_four min_four   -- for this text's walks alone

def hunk_Right.f (k:Nat) (a0_0:Int) (a0_1:Int) (a0_2:Int) (a0_3:Int) (l0_4:List ByteArray):Option (Bool):=(hunk_count.f k l0_4).bind fun bt110=>(if bt110.2.2=true then (if a0_0 ≥ 0 then (if a0_2 ≥ 0 then (if bt110.1=a0_1 then (some (bt110.2.1 == a0_3)) else (some false)) else (some false)) else (some false)) else (some false))
set_option maxHeartbeats 8000000 in
set_option maxRecDepth 100000 in
theorem hunk_Right.calls (k:Nat) (a0_0:Int) (a0_1:Int) (a0_2:Int) (a0_3:Int) (A0_4:Option Addr) (c0_4:Nat) (l0_4:List ByteArray) (r:Bool) (w:World) (hr0_4:Kd.C Kd.string w A0_4 l0_4.length l0_4) (hc0_4:l0_4.length≤c0_4) (h:hunk_Right.f k a0_0 a0_1 a0_2 a0_3 l0_4=some r) :
  Calls Tryd.prog 52 #[.agg #[.int .i64 a0_0,.int .i64 a0_1,.int .i64 a0_2,.int .i64 a0_3,.slice A0_4 l0_4.length c0_4]] w fun e w'=>e=.returned (.bool r)∧Below w.heap.size w w':=by
 have hu41:=Tryd.underlying41
 have HR0_4:=Aside0.mk hr0_4
 have HC0_4:=Aside0.mk hc0_4
 clear hr0_4 hc0_4
 have HB:=Aside0.mk (Below.refl w.heap.size w)
 have H:((hunk_count.f k l0_4).bind fun bt110=>(if bt110.2.2=true then (if a0_0 ≥ 0 then (if a0_2 ≥ 0 then (if bt110.1=a0_1 then (some (bt110.2.1 == a0_3)) else (some false)) else (some false)) else (some false)) else (some false)))=some r:=h
 clear h
 replace H:=Option.bind_eq_some_iff.mp H
 obtain ⟨⟨t110,t111,t112⟩,A20,H⟩:=H
 replace H:(if t112=true then (if a0_0 ≥ 0 then (if a0_2 ≥ 0 then (if t110=a0_1 then (some (t111 == a0_3)) else (some false)) else (some false)) else (some false)) else (some false))=some r:=H
 have A2:=Aside0.mk A20
 clear A20
 by_cases c3:t112=true
 ·subst c3
  have H1:(if a0_0 ≥ 0 then (if a0_2 ≥ 0 then (if t110=a0_1 then (some (t111 == a0_3)) else (some false)) else (some false)) else (some false))=some r:=by rw [if_pos rfl] at H;exact H
  clear H
  have H:=H1
  clear H1
  by_cases c4:a0_0 ≥ 0
  ·rw [if_pos c4] at H
   have c4b0:decide (0≤a0_0)=true:=decide_eq_true c4
   clear c4
   by_cases c5:a0_2 ≥ 0
   ·rw [if_pos c5] at H
    have c5b0:decide (0≤a0_2)=true:=decide_eq_true c5
    clear c5
    by_cases c6:t110=a0_1
    ·rw [if_pos c6] at H
     have c6b0:(t110 == a0_1)=true:=beq_iff_eq.mpr c6
     have c6b1:(t110 != a0_1)=false:=bne_eq_false_iff_eq.mpr c6
     clear c6
     obtain rfl:=Option.some.inj H
     go_enter Tryd.func52,Tryd.ntmps52
     go_wp2_with (first|((with_reducible refine gate_dst (N:=1) rfl ?_);refine box_event ?hg (N:=1) ?hd (cs:=#[.int .i64 a0_0,.int .i64 a0_1,.int .i64 a0_2,.int .i64 a0_3,.slice A0_4 l0_4.length c0_4]) (t:=41) ?hr ?_;(case hd=>rfl);(case hg=>rfl);(case hr=>first|(go_simp;done)|(go_simp;rfl));intro gb109 hg w7 hbox hb;have n0_:=Aside0.mk (below_step (by repeat (first|(with_reducible first|exact HB.out|apply below_alloc|apply pw_below_drewN|apply below_drew1)|exact HB.out)) hb);have n1_:=Aside0.mk (hbox);have n2_:=Aside0.mk ((by rw [hg];exact (below_size (by repeat (first|(with_reducible first|exact HB.out|apply below_alloc|apply pw_below_drewN|apply below_drew1)|exact HB.out))):w.heap.size≤gb109));have n3_:=Aside0.mk ((by rw [hg];exact (below_size (by repeat (first|(with_reducible first|exact HB.out|apply below_alloc|apply pw_below_drewN|apply below_drew1)|exact HB.out))):w.heap.size≤gb109));clear HB;have HB:=n0_;have BK109:=n1_;have GW109:=n2_;have GE109:=n3_;clear n0_ n1_ n2_ n3_;clear hb hbox hg;have hcz8_0:w7.cell? ⟨gb109,0,none⟩=some (.int .i64 a0_0):=(blk_cell BK109.out 0).trans rfl;have hcz8_1:w7.cell? ⟨gb109,1,none⟩=some (.int .i64 a0_1):=(blk_cell BK109.out 1).trans rfl;have hcz8_2:w7.cell? ⟨gb109,2,none⟩=some (.int .i64 a0_2):=(blk_cell BK109.out 2).trans rfl;have hcz8_3:w7.cell? ⟨gb109,3,none⟩=some (.int .i64 a0_3):=(blk_cell BK109.out 3).trans rfl;have hcz8_4:w7.cell? ⟨gb109,4,none⟩=some (.slice A0_4 l0_4.length c0_4):=(blk_cell BK109.out 4).trans rfl;have hfz8_0:=blk_frozen BK109.out 0;have hfz8_1:=blk_frozen BK109.out 1;have hfz8_2:=blk_frozen BK109.out 2;have hfz8_3:=blk_frozen BK109.out 3;have hfz8_4:=blk_frozen BK109.out 4)|((with_reducible refine gate_callee (f:=70) rfl ?_);refine goesL_ (some 9) rfl rfl Tryd.func70 (by kernel_rfl) rfl #[.slice A0_4 l0_4.length c0_4] rfl (by (try simp only [List.map_toArray,List.map_cons,List.map_nil]);first|done|rfl|(simp only [List.length_drop,List.length_take];rfl)) ?_;(with_reducible refine (hunk_count.calls k _ _ l0_4 t110 t111 true _ ?side1 ?side2 A2.out).mono ?_);(case side1=>repeat (first|exact (Kd.C_below HR0_4.out HB.out)|(with_reducible refine Kd.C_alloc ?_ _)|(with_reducible refine Kd.C_drewN ?_ _)|(with_reducible refine Kd.C_drew ?_)));(case side2=>exact HC0_4.out);rintro e w' ⟨rfl,⟨nd,rfl⟩⟩;refine ⟨_,rfl,?_⟩))
     go_ret
     exact ⟨by first|rfl|(simp [errW_none,errW_some]<;>rfl)|(simp [*,errW_none,errW_some]<;>rfl),by repeat (first|(with_reducible first|exact HB.out|apply below_alloc|apply pw_below_drewN|apply below_drew1|refine below_set ?_ GE109.out)|exact HB.out)⟩
    ·rw [if_neg c6] at H
     have c6b0:(t110 == a0_1)=false:=beq_eq_false_iff_ne.mpr c6
     have c6b1:(t110 != a0_1)=true:=bne_iff_ne.mpr c6
     obtain rfl:=Option.some.inj H
     go_enter Tryd.func52,Tryd.ntmps52
     go_wp2_with (first|((with_reducible refine gate_dst (N:=1) rfl ?_);refine box_event ?hg (N:=1) ?hd (cs:=#[.int .i64 a0_0,.int .i64 a0_1,.int .i64 a0_2,.int .i64 a0_3,.slice A0_4 l0_4.length c0_4]) (t:=41) ?hr ?_;(case hd=>rfl);(case hg=>rfl);(case hr=>first|(go_simp;done)|(go_simp;rfl));intro gb109 hg w9 hbox hb;have n0_:=Aside0.mk (below_step (by repeat (first|(with_reducible first|exact HB.out|apply below_alloc|apply pw_below_drewN|apply below_drew1)|exact HB.out)) hb);have n1_:=Aside0.mk (hbox);have n2_:=Aside0.mk ((by rw [hg];exact (below_size (by repeat (first|(with_reducible first|exact HB.out|apply below_alloc|apply pw_below_drewN|apply below_drew1)|exact HB.out))):w.heap.size≤gb109));have n3_:=Aside0.mk ((by rw [hg];exact (below_size (by repeat (first|(with_reducible first|exact HB.out|apply below_alloc|apply pw_below_drewN|apply below_drew1)|exact HB.out))):w.heap.size≤gb109));clear HB;have HB:=n0_;have BK109:=n1_;have GW109:=n2_;have GE109:=n3_;clear n0_ n1_ n2_ n3_;clear hb hbox hg;have hcz10_0:w9.cell? ⟨gb109,0,none⟩=some (.int .i64 a0_0):=(blk_cell BK109.out 0).trans rfl;have hcz10_1:w9.cell? ⟨gb109,1,none⟩=some (.int .i64 a0_1):=(blk_cell BK109.out 1).trans rfl;have hcz10_2:w9.cell? ⟨gb109,2,none⟩=some (.int .i64 a0_2):=(blk_cell BK109.out 2).trans rfl;have hcz10_3:w9.cell? ⟨gb109,3,none⟩=some (.int .i64 a0_3):=(blk_cell BK109.out 3).trans rfl;have hcz10_4:w9.cell? ⟨gb109,4,none⟩=some (.slice A0_4 l0_4.length c0_4):=(blk_cell BK109.out 4).trans rfl;have hfz10_0:=blk_frozen BK109.out 0;have hfz10_1:=blk_frozen BK109.out 1;have hfz10_2:=blk_frozen BK109.out 2;have hfz10_3:=blk_frozen BK109.out 3;have hfz10_4:=blk_frozen BK109.out 4)|((with_reducible refine gate_callee (f:=70) rfl ?_);refine goesL_ (some 9) rfl rfl Tryd.func70 (by kernel_rfl) rfl #[.slice A0_4 l0_4.length c0_4] rfl (by (try simp only [List.map_toArray,List.map_cons,List.map_nil]);first|done|rfl|(simp only [List.length_drop,List.length_take];rfl)) ?_;(with_reducible refine (hunk_count.calls k _ _ l0_4 t110 t111 true _ ?side1 ?side2 A2.out).mono ?_);(case side1=>repeat (first|exact (Kd.C_below HR0_4.out HB.out)|(with_reducible refine Kd.C_alloc ?_ _)|(with_reducible refine Kd.C_drewN ?_ _)|(with_reducible refine Kd.C_drew ?_)));(case side2=>exact HC0_4.out);rintro e w' ⟨rfl,⟨nd,rfl⟩⟩;refine ⟨_,rfl,?_⟩))
     go_ret
     exact ⟨by first|rfl|(simp [errW_none,errW_some]<;>rfl)|(simp [*,errW_none,errW_some]<;>rfl),by repeat (first|(with_reducible first|exact HB.out|apply below_alloc|apply pw_below_drewN|apply below_drew1|refine below_set ?_ GE109.out)|exact HB.out)⟩
   ·rw [if_neg c5] at H
    have c5b0:decide (0≤a0_2)=false:=decide_eq_false c5
    clear c5
    obtain rfl:=Option.some.inj H
    go_enter Tryd.func52,Tryd.ntmps52
    go_wp2_with (first|((with_reducible refine gate_dst (N:=1) rfl ?_);refine box_event ?hg (N:=1) ?hd (cs:=#[.int .i64 a0_0,.int .i64 a0_1,.int .i64 a0_2,.int .i64 a0_3,.slice A0_4 l0_4.length c0_4]) (t:=41) ?hr ?_;(case hd=>rfl);(case hg=>rfl);(case hr=>first|(go_simp;done)|(go_simp;rfl));intro gb109 hg w11 hbox hb;have n0_:=Aside0.mk (below_step (by repeat (first|(with_reducible first|exact HB.out|apply below_alloc|apply pw_below_drewN|apply below_drew1)|exact HB.out)) hb);have n1_:=Aside0.mk (hbox);have n2_:=Aside0.mk ((by rw [hg];exact (below_size (by repeat (first|(with_reducible first|exact HB.out|apply below_alloc|apply pw_below_drewN|apply below_drew1)|exact HB.out))):w.heap.size≤gb109));have n3_:=Aside0.mk ((by rw [hg];exact (below_size (by repeat (first|(with_reducible first|exact HB.out|apply below_alloc|apply pw_below_drewN|apply below_drew1)|exact HB.out))):w.heap.size≤gb109));clear HB;have HB:=n0_;have BK109:=n1_;have GW109:=n2_;have GE109:=n3_;clear n0_ n1_ n2_ n3_;clear hb hbox hg;have hcz12_0:w11.cell? ⟨gb109,0,none⟩=some (.int .i64 a0_0):=(blk_cell BK109.out 0).trans rfl;have hcz12_1:w11.cell? ⟨gb109,1,none⟩=some (.int .i64 a0_1):=(blk_cell BK109.out 1).trans rfl;have hcz12_2:w11.cell? ⟨gb109,2,none⟩=some (.int .i64 a0_2):=(blk_cell BK109.out 2).trans rfl;have hcz12_3:w11.cell? ⟨gb109,3,none⟩=some (.int .i64 a0_3):=(blk_cell BK109.out 3).trans rfl;have hcz12_4:w11.cell? ⟨gb109,4,none⟩=some (.slice A0_4 l0_4.length c0_4):=(blk_cell BK109.out 4).trans rfl;have hfz12_0:=blk_frozen BK109.out 0;have hfz12_1:=blk_frozen BK109.out 1;have hfz12_2:=blk_frozen BK109.out 2;have hfz12_3:=blk_frozen BK109.out 3;have hfz12_4:=blk_frozen BK109.out 4)|((with_reducible refine gate_callee (f:=70) rfl ?_);refine goesL_ (some 9) rfl rfl Tryd.func70 (by kernel_rfl) rfl #[.slice A0_4 l0_4.length c0_4] rfl (by (try simp only [List.map_toArray,List.map_cons,List.map_nil]);first|done|rfl|(simp only [List.length_drop,List.length_take];rfl)) ?_;(with_reducible refine (hunk_count.calls k _ _ l0_4 t110 t111 true _ ?side1 ?side2 A2.out).mono ?_);(case side1=>repeat (first|exact (Kd.C_below HR0_4.out HB.out)|(with_reducible refine Kd.C_alloc ?_ _)|(with_reducible refine Kd.C_drewN ?_ _)|(with_reducible refine Kd.C_drew ?_)));(case side2=>exact HC0_4.out);rintro e w' ⟨rfl,⟨nd,rfl⟩⟩;refine ⟨_,rfl,?_⟩))
    go_ret
    exact ⟨by first|rfl|(simp [errW_none,errW_some]<;>rfl)|(simp [*,errW_none,errW_some]<;>rfl),by repeat (first|(with_reducible first|exact HB.out|apply below_alloc|apply pw_below_drewN|apply below_drew1|refine below_set ?_ GE109.out)|exact HB.out)⟩
  ·rw [if_neg c4] at H
   have c4b0:decide (0≤a0_0)=false:=decide_eq_false c4
   clear c4
   obtain rfl:=Option.some.inj H
   go_enter Tryd.func52,Tryd.ntmps52
   go_wp2_with (first|((with_reducible refine gate_dst (N:=1) rfl ?_);refine box_event ?hg (N:=1) ?hd (cs:=#[.int .i64 a0_0,.int .i64 a0_1,.int .i64 a0_2,.int .i64 a0_3,.slice A0_4 l0_4.length c0_4]) (t:=41) ?hr ?_;(case hd=>rfl);(case hg=>rfl);(case hr=>first|(go_simp;done)|(go_simp;rfl));intro gb109 hg w13 hbox hb;have n0_:=Aside0.mk (below_step (by repeat (first|(with_reducible first|exact HB.out|apply below_alloc|apply pw_below_drewN|apply below_drew1)|exact HB.out)) hb);have n1_:=Aside0.mk (hbox);have n2_:=Aside0.mk ((by rw [hg];exact (below_size (by repeat (first|(with_reducible first|exact HB.out|apply below_alloc|apply pw_below_drewN|apply below_drew1)|exact HB.out))):w.heap.size≤gb109));have n3_:=Aside0.mk ((by rw [hg];exact (below_size (by repeat (first|(with_reducible first|exact HB.out|apply below_alloc|apply pw_below_drewN|apply below_drew1)|exact HB.out))):w.heap.size≤gb109));clear HB;have HB:=n0_;have BK109:=n1_;have GW109:=n2_;have GE109:=n3_;clear n0_ n1_ n2_ n3_;clear hb hbox hg;have hcz14_0:w13.cell? ⟨gb109,0,none⟩=some (.int .i64 a0_0):=(blk_cell BK109.out 0).trans rfl;have hcz14_1:w13.cell? ⟨gb109,1,none⟩=some (.int .i64 a0_1):=(blk_cell BK109.out 1).trans rfl;have hcz14_2:w13.cell? ⟨gb109,2,none⟩=some (.int .i64 a0_2):=(blk_cell BK109.out 2).trans rfl;have hcz14_3:w13.cell? ⟨gb109,3,none⟩=some (.int .i64 a0_3):=(blk_cell BK109.out 3).trans rfl;have hcz14_4:w13.cell? ⟨gb109,4,none⟩=some (.slice A0_4 l0_4.length c0_4):=(blk_cell BK109.out 4).trans rfl;have hfz14_0:=blk_frozen BK109.out 0;have hfz14_1:=blk_frozen BK109.out 1;have hfz14_2:=blk_frozen BK109.out 2;have hfz14_3:=blk_frozen BK109.out 3;have hfz14_4:=blk_frozen BK109.out 4)|((with_reducible refine gate_callee (f:=70) rfl ?_);refine goesL_ (some 9) rfl rfl Tryd.func70 (by kernel_rfl) rfl #[.slice A0_4 l0_4.length c0_4] rfl (by (try simp only [List.map_toArray,List.map_cons,List.map_nil]);first|done|rfl|(simp only [List.length_drop,List.length_take];rfl)) ?_;(with_reducible refine (hunk_count.calls k _ _ l0_4 t110 t111 true _ ?side1 ?side2 A2.out).mono ?_);(case side1=>repeat (first|exact (Kd.C_below HR0_4.out HB.out)|(with_reducible refine Kd.C_alloc ?_ _)|(with_reducible refine Kd.C_drewN ?_ _)|(with_reducible refine Kd.C_drew ?_)));(case side2=>exact HC0_4.out);rintro e w' ⟨rfl,⟨nd,rfl⟩⟩;refine ⟨_,rfl,?_⟩))
   go_ret
   exact ⟨by first|rfl|(simp [errW_none,errW_some]<;>rfl)|(simp [*,errW_none,errW_some]<;>rfl),by repeat (first|(with_reducible first|exact HB.out|apply below_alloc|apply pw_below_drewN|apply below_drew1|refine below_set ?_ GE109.out)|exact HB.out)⟩
 ·replace c3:=Bool.eq_false_iff.mpr c3
  subst c3
  have H1:(some false)=some r:=by rw [if_neg (show ¬ (false=true) by decide)] at H;exact H
  clear H
  have H:=H1
  clear H1
  obtain rfl:=Option.some.inj H
  go_enter Tryd.func52,Tryd.ntmps52
  go_wp2_with (first|((with_reducible refine gate_dst (N:=1) rfl ?_);refine box_event ?hg (N:=1) ?hd (cs:=#[.int .i64 a0_0,.int .i64 a0_1,.int .i64 a0_2,.int .i64 a0_3,.slice A0_4 l0_4.length c0_4]) (t:=41) ?hr ?_;(case hd=>rfl);(case hg=>rfl);(case hr=>first|(go_simp;done)|(go_simp;rfl));intro gb109 hg w15 hbox hb;have n0_:=Aside0.mk (below_step (by repeat (first|(with_reducible first|exact HB.out|apply below_alloc|apply pw_below_drewN|apply below_drew1)|exact HB.out)) hb);have n1_:=Aside0.mk (hbox);have n2_:=Aside0.mk ((by rw [hg];exact (below_size (by repeat (first|(with_reducible first|exact HB.out|apply below_alloc|apply pw_below_drewN|apply below_drew1)|exact HB.out))):w.heap.size≤gb109));have n3_:=Aside0.mk ((by rw [hg];exact (below_size (by repeat (first|(with_reducible first|exact HB.out|apply below_alloc|apply pw_below_drewN|apply below_drew1)|exact HB.out))):w.heap.size≤gb109));clear HB;have HB:=n0_;have BK109:=n1_;have GW109:=n2_;have GE109:=n3_;clear n0_ n1_ n2_ n3_;clear hb hbox hg;have hcz16_0:w15.cell? ⟨gb109,0,none⟩=some (.int .i64 a0_0):=(blk_cell BK109.out 0).trans rfl;have hcz16_1:w15.cell? ⟨gb109,1,none⟩=some (.int .i64 a0_1):=(blk_cell BK109.out 1).trans rfl;have hcz16_2:w15.cell? ⟨gb109,2,none⟩=some (.int .i64 a0_2):=(blk_cell BK109.out 2).trans rfl;have hcz16_3:w15.cell? ⟨gb109,3,none⟩=some (.int .i64 a0_3):=(blk_cell BK109.out 3).trans rfl;have hcz16_4:w15.cell? ⟨gb109,4,none⟩=some (.slice A0_4 l0_4.length c0_4):=(blk_cell BK109.out 4).trans rfl;have hfz16_0:=blk_frozen BK109.out 0;have hfz16_1:=blk_frozen BK109.out 1;have hfz16_2:=blk_frozen BK109.out 2;have hfz16_3:=blk_frozen BK109.out 3;have hfz16_4:=blk_frozen BK109.out 4)|((with_reducible refine gate_callee (f:=70) rfl ?_);refine goesL_ (some 9) rfl rfl Tryd.func70 (by kernel_rfl) rfl #[.slice A0_4 l0_4.length c0_4] rfl (by (try simp only [List.map_toArray,List.map_cons,List.map_nil]);first|done|rfl|(simp only [List.length_drop,List.length_take];rfl)) ?_;(with_reducible refine (hunk_count.calls k _ _ l0_4 t110 t111 false _ ?side1 ?side2 A2.out).mono ?_);(case side1=>repeat (first|exact (Kd.C_below HR0_4.out HB.out)|(with_reducible refine Kd.C_alloc ?_ _)|(with_reducible refine Kd.C_drewN ?_ _)|(with_reducible refine Kd.C_drew ?_)));(case side2=>exact HC0_4.out);rintro e w' ⟨rfl,⟨nd,rfl⟩⟩;refine ⟨_,rfl,?_⟩))
  go_ret
  exact ⟨by first|rfl|(simp [errW_none,errW_some]<;>rfl)|(simp [*,errW_none,errW_some]<;>rfl),by repeat (first|(with_reducible first|exact HB.out|apply below_alloc|apply pw_below_drewN|apply below_drew1|refine below_set ?_ GE109.out)|exact HB.out)⟩

end Go.Proofs.YtamojbfmphainaaDoor.Pr
-- shrunk
