-- written by a program of this session's (a turned copy of the kit's printer); Lean checks it
import Derived.Test.YtnmphfelebkaiaaK0
set_option linter.unusedVariables false
set_option linter.unusedSimpArgs false
namespace Go.Proofs.Ytnmphfelebkaiaa.Pr
open Go.RowKit Go.Proofs.YtnmphfelebkaiaaW.PrintWords Go.Proofs.YtnmphfelebkaiaaW.PrintLast Go.Proofs.YtnmphfelebkaiaaW.PrintMore
attribute [local go_sem] max2_int min2_int max_two min_two max_three min_three max_four min_four   -- for this text's walks alone

theorem ginfoIn:(Try.prog.info? 3).map (fun i=>(i.zero,i.size,i.bytes))=some (some (.int .i64 0),1,8):=by kernel_rfl
theorem ginfoS:(Try.prog.info? 49).map (fun i=>(i.zero,i.size,i.bytes))=some (some (.slice none 0 0),1,24):=by kernel_rfl
def rd_LI (xs:List (List Int)) (i:Int):(List Int):=xs.getD i.toNat ([]:List Int)
theorem at_LI {w:World} {A:Option Addr} {n:Nat} {xs:List (List Int)} (h:Kd.C (Kd.slice 3 (Kd.int .i64)) w A n xs) (i:Int) (h0:0≤i) (h1:i<n):∃ ad A0 c0,A=some ad∧w.cell? (ad.add i.toNat)=some (.slice A0 (rd_LI xs i).length c0)∧(rd_LI xs i).length≤c0∧(Kd.int .i64).C w A0 (rd_LI xs i).length (rd_LI xs i):=by
 obtain ⟨ad,c,e,_,hK,hc0⟩:=Kd.C_get h ([]:List Int) i h0 h1
 have hc:∀ j u,c[j]?=some u→w.cell? (ad.add (i.toNat * 1+j))=some u:=hc0
 obtain ⟨A0,c0,rfl,l0,g0⟩:=hK
 exact ⟨ad,A0,c0,e,by have hq:=hc 0 _ rfl;rwa [Nat.mul_one,Nat.add_zero] at hq,l0,g0⟩

mutual
def diff_table.l0:Nat→List ByteArray→List ByteArray→List (List Int)→Int→Option ((List (List Int)))
 | 0,_,_,_,_=>none
 | k+1,x0,x1,x5,x6=>if x6 ≥ 0 then (if 0≤(wrap64 ((x1.length:Int)+1)) then (if (wrap64 ((x1.length:Int)+1):Int).toNat≤35184372088832 then (if 0≤x6 then (if x6<(x5.length:Int) then (diff_table.l1 k x0 x1 (x5.set (x6:Int).toNat (List.replicate (wrap64 ((x1.length:Int)+1):Int).toNat 0)) x6 (wrap64 ((x1.length:Int) - 1))) else (none)) else (none)) else (none)) else (none)) else (some x5)
def diff_table.l1:Nat→List ByteArray→List ByteArray→List (List Int)→Int→Int→Option ((List (List Int)))
 | 0,_,_,_,_,_=>none
 | k+1,x0,x1,x5,x6,x7=>if x7 ≥ 0 then (if 0≤x6 then (if x6<(x5.length:Int) then (if 0≤(wrap64 (x6+1)) then (if (wrap64 (x6+1))<(x5.length:Int) then (if 0≤x7 then (if x7<((rd_LI x5 (wrap64 (x6+1))).length:Int) then (if 0≤(wrap64 (x7+1)) then (if (wrap64 (x7+1))<((rd_LI x5 x6).length:Int) then (if x7<((rd_LI x5 x6).length:Int) then ((some (x5.set (x6:Int).toNat ((rd_LI x5 x6).set (x7:Int).toNat (mx (rd (rd_LI x5 (wrap64 (x6+1))) x7) (rd (rd_LI x5 x6) (wrap64 (x7+1))))):List (List Int))).bind fun y128=>(if x6<(x0.length:Int) then (if x7<(x1.length:Int) then (if (rdOf ByteArray.empty x0 x6).toList=(rdOf ByteArray.empty x1 x7).toList then (if (wrap64 (x7+1))<((rd_LI y128 (wrap64 (x6+1))).length:Int) then (if x7<((rd_LI y128 x6).length:Int) then (diff_table.l1 k x0 x1 (y128.set (x6:Int).toNat ((rd_LI y128 x6).set (x7:Int).toNat (wrap64 ((rd (rd_LI y128 (wrap64 (x6+1))) (wrap64 (x7+1)))+1)))) x6 (wrap64 (x7 - 1))) else (none)) else (none)) else (diff_table.l1 k x0 x1 y128 x6 (wrap64 (x7 - 1)))) else (none)) else (none))) else (none)) else (none)) else (none)) else (none)) else (none)) else (none)) else (none)) else (none)) else (none)) else (diff_table.l0 k x0 x1 x5 (wrap64 (x6 - 1)))
end
def diff_table.f (k:Nat) (l0:List ByteArray) (l1:List ByteArray):Option ((List (List Int))):=if 0≤(wrap64 ((l0.length:Int)+1)) then (if (wrap64 ((l0.length:Int)+1):Int).toNat≤11728124029610 then ((some (List.replicate (wrap64 ((l0.length:Int)+1):Int).toNat []:List (List Int))).bind fun y110=>(if 0≤(wrap64 ((l1.length:Int)+1)) then (if (wrap64 ((l1.length:Int)+1):Int).toNat≤35184372088832 then (if 0≤(l0.length:Int) then (if (l0.length:Int)<(y110.length:Int) then (diff_table.l0 k l0 l1 (y110.set ((l0.length:Int):Int).toNat (List.replicate (wrap64 ((l1.length:Int)+1):Int).toNat 0)) (wrap64 ((l0.length:Int) - 1))) else (none)) else (none)) else (none)) else (none))) else (none)) else (none)
def diff_table.T10:Bool × List (List Nat × List Nat):=(true,[([],[]),([],[]),([0,1],[0,1]),([2],[2]),([],[]),([],[]),([],[]),([6],[6]),([5,7],[5,7]),([8],[8]),([],[]),([9,10],[9,10]),([11],[11]),([],[]),([],[]),([13,14],[13,14]),([15],[15]),([],[]),([17],[17]),([16,18],[16,18]),([19],[19]),([12,20],[12,20]),([3,4,0,1,2,3,4,5,6,7,8,9,10,11,12,13,14,15,16,17,18,19,20,21],[3,4]),([22,21,0,1,2,3,4,5,6,7,8,9,10,11,12,13,14,15,16,17,18,19,20,21],[21,22])])
def diff_table.B10:List Nat:=[0,0,3,7,0,0,0,64,224,480,0,2016,4064,0,0,24576,57344,0,131072,516096,1040384,2097120,4194303,8388607]
theorem diff_table.tab10:rtab .any (opsOf Try.f37 10)=diff_table.T10:=by kernel_rfl
theorem diff_table.bits10:waitsOk diff_table.T10.2 diff_table.B10=true:=by kernel_rfl
def diff_table.T11:Bool × List (List Nat × List Nat):=(true,[([],[]),([],[]),([0,1],[0,1]),([2],[2]),([],[]),([],[]),([4,5],[4,5]),([6],[6]),([3,7],[3,7])])
def diff_table.B11:List Nat:=[0,0,3,7,0,0,48,112,255]
theorem diff_table.tab11:rtab .any (opsOf Try.f37 11)=diff_table.T11:=by kernel_rfl
theorem diff_table.bits11:waitsOk diff_table.T11.2 diff_table.B11=true:=by kernel_rfl
def diff_table.T12:Bool × List (List Nat × List Nat):=(true,[([],[]),([],[]),([0,1],[0,1]),([2],[2]),([],[]),([],[]),([],[]),([6],[6]),([5,7],[5,7]),([8],[8]),([],[]),([10],[10]),([9,11],[9,11]),([12],[12]),([13],[13]),([3,4,0,1,2,3,4,5,6,7,8,9,10,11,12,13,14],[3,4]),([15,14,0,1,2,3,4,5,6,7,8,9,10,11,12,13,14],[14,15])])
def diff_table.B12:List Nat:=[0,0,3,7,0,0,0,64,224,480,0,1024,4064,8160,16352,32767,65535]
theorem diff_table.tab12:rtab .any (opsOf Try.f37 12)=diff_table.T12:=by kernel_rfl
theorem diff_table.bits12:waitsOk diff_table.T12.2 diff_table.B12=true:=by kernel_rfl
set_option maxHeartbeats 8000000 in
set_option maxRecDepth 100000 in
theorem diff_table.calls (k:Nat) (A0:Option Addr) (c0:Nat) (l0:List ByteArray) (A1:Option Addr) (c1:Nat) (l1:List ByteArray) (r:List (List Int)) (w:World) (hr0:Kd.C Kd.string w A0 l0.length l0) (hc0:l0.length≤c0) (hr1:Kd.C Kd.string w A1 l1.length l1) (hc1:l1.length≤c1) (h:diff_table.f k l0 l1=some r) :
  Calls Try.prog 37 #[.slice A0 l0.length c0,.slice A1 l1.length c1] w fun e w'=>∃ v0_:Value,e=.returned (v0_)∧Kd.S (Kd.slice 3 (Kd.int .i64)) 49 w' w.heap.size (fun _=>True) v0_ r∧Below w.heap.size w w':=by
 have HR0:=Aside0.mk hr0
 have HC0:=Aside0.mk hc0
 clear hr0 hc0
 have HR1:=Aside0.mk hr1
 have HC1:=Aside0.mk hc1
 clear hr1 hc1
 have HB:=Aside0.mk (Below.refl w.heap.size w)
 have H:(if 0≤(wrap64 ((l0.length:Int)+1)) then (if (wrap64 ((l0.length:Int)+1):Int).toNat≤11728124029610 then ((some (List.replicate (wrap64 ((l0.length:Int)+1):Int).toNat []:List (List Int))).bind fun y110=>(if 0≤(wrap64 ((l1.length:Int)+1)) then (if (wrap64 ((l1.length:Int)+1):Int).toNat≤35184372088832 then (if 0≤(l0.length:Int) then (if (l0.length:Int)<(y110.length:Int) then (diff_table.l0 k l0 l1 (y110.set ((l0.length:Int):Int).toNat (List.replicate (wrap64 ((l1.length:Int)+1):Int).toNat 0)) (wrap64 ((l0.length:Int) - 1))) else (none)) else (none)) else (none)) else (none))) else (none)) else (none))=some r:=h
 clear h
 obtain ⟨ji3,hji3⟩:∃ j_:Int,(wrap64 ((l0.length:Int)+1))=j_:=⟨_,rfl⟩
 replace H:(if 0≤(ji3) then (if (ji3:Int).toNat≤11728124029610 then ((some (List.replicate (ji3:Int).toNat []:List (List Int))).bind fun y110=>(if 0≤(wrap64 ((l1.length:Int)+1)) then (if (wrap64 ((l1.length:Int)+1):Int).toNat≤35184372088832 then (if 0≤(l0.length:Int) then (if (l0.length:Int)<(y110.length:Int) then (diff_table.l0 k l0 l1 (y110.set ((l0.length:Int):Int).toNat (List.replicate (wrap64 ((l1.length:Int)+1):Int).toNat 0)) (wrap64 ((l0.length:Int) - 1))) else (none)) else (none)) else (none)) else (none))) else (none)) else (none))=some r:=by first|(rw [hji3] at H;exact H)|(simp only [hji3] at H ⊢;exact H)
 have hji3w:(IntKind.i64.wrap ((l0.length:Int)+1))=ji3:=(i64_w _).trans hji3
 by_cases c4:0≤(ji3)
 rotate_left
 ·rw [if_neg c4] at H
  exact absurd H (by simp)

 rw [if_pos c4] at H
 have c4b0:=eq_true c4
 have c4b1:decide (0≤(ji3))=true:=decide_eq_true c4
 clear c4
 by_cases c5:(ji3:Int).toNat≤11728124029610
 rotate_left
 ·rw [if_neg c5] at H
  exact absurd H (by simp)
 rw [if_pos c5] at H
 have c5b0:=eq_true c5
 have c5b1:decide ((ji3:Int).toNat≤11728124029610)=true:=decide_eq_true c5
 clear c5
 obtain ⟨y110,hy110⟩:∃ y_:List (List Int),y_=(List.replicate (ji3:Int).toNat []):=⟨_,rfl⟩
 replace H:(if 0≤(wrap64 ((l1.length:Int)+1)) then (if (wrap64 ((l1.length:Int)+1):Int).toNat≤35184372088832 then (if 0≤(l0.length:Int) then (if (l0.length:Int)<(y110.length:Int) then (diff_table.l0 k l0 l1 (y110.set ((l0.length:Int):Int).toNat (List.replicate (wrap64 ((l1.length:Int)+1):Int).toNat 0)) (wrap64 ((l0.length:Int) - 1))) else (none)) else (none)) else (none)) else (none))=some r:=by first|(rw [hy110];with_reducible exact H)|(have H2_:=(Option.bind_some _ _).symm.trans H;rw [hy110];with_reducible exact H2_)|(have H2_:=(Option.bind_some _ _).symm.trans H;with_reducible exact H2_)|with_reducible exact H|(rw [hy110];exact H)|exact H
 have Ny110:=Aside0.mk hy110
 clear hy110
 obtain ⟨ji6,hji6⟩:∃ j_:Int,(wrap64 ((l1.length:Int)+1))=j_:=⟨_,rfl⟩
 replace H:(if 0≤(ji6) then (if (ji6:Int).toNat≤35184372088832 then (if 0≤(l0.length:Int) then (if (l0.length:Int)<(y110.length:Int) then (diff_table.l0 k l0 l1 (y110.set ((l0.length:Int):Int).toNat (List.replicate (ji6:Int).toNat 0)) (wrap64 ((l0.length:Int) - 1))) else (none)) else (none)) else (none)) else (none))=some r:=by first|(rw [hji6] at H;exact H)|(simp only [hji6] at H ⊢;exact H)
 have hji6w:(IntKind.i64.wrap ((l1.length:Int)+1))=ji6:=(i64_w _).trans hji6
 by_cases c7:0≤(ji6)
 rotate_left
 ·rw [if_neg c7] at H
  exact absurd H (by simp)
 rw [if_pos c7] at H
 have c7b0:=eq_true c7
 have c7b1:decide (0≤(ji6))=true:=decide_eq_true c7
 clear c7
 by_cases c8:(ji6:Int).toNat≤35184372088832
 rotate_left
 ·rw [if_neg c8] at H
  exact absurd H (by simp)
 rw [if_pos c8] at H
 have c8b0:=eq_true c8
 have c8b1:decide ((ji6:Int).toNat≤35184372088832)=true:=decide_eq_true c8
 clear c8
 obtain ⟨y113,hy113⟩:∃ y_:List Int,y_=(List.replicate (ji6:Int).toNat 0):=⟨_,rfl⟩
 replace H:(if 0≤(l0.length:Int) then (if (l0.length:Int)<(y110.length:Int) then (diff_table.l0 k l0 l1 (y110.set ((l0.length:Int):Int).toNat y113) (wrap64 ((l0.length:Int) - 1))) else (none)) else (none))=some r:=by first|(rw [hy113];with_reducible exact H)|(have H2_:=(Option.bind_some _ _).symm.trans H;rw [hy113];with_reducible exact H2_)|(have H2_:=(Option.bind_some _ _).symm.trans H;with_reducible exact H2_)|with_reducible exact H|(rw [hy113];exact H)|exact H
 have Ny113:=Aside0.mk hy113
 clear hy113
 by_cases c9:0≤(l0.length:Int)
 rotate_left
 ·rw [if_neg c9] at H
  exact absurd H (by simp)
 rw [if_pos c9] at H
 have c9b0:decide (0≤(l0.length:Int))=true:=decide_eq_true c9
 have c9b1:decide (0≤l0.length)=true:=decide_eq_true (by omega)
 clear c9
 by_cases c10:(l0.length:Int)<(y110.length:Int)
 rotate_left
 ·rw [if_neg c10] at H
  exact absurd H (by simp)
 rw [if_pos c10] at H
 have c10b0:decide ((l0.length:Int)<(y110.length:Int))=true:=decide_eq_true c10
 have c10b1:decide (l0.length<y110.length)=true:=decide_eq_true (Int.ofNat_lt.mp c10)
 clear c10
 obtain ⟨y116,hy116⟩:∃ y_:List (List Int),y_=(y110.set ((l0.length:Int):Int).toNat y113):=⟨_,rfl⟩
 replace H:(diff_table.l0 k l0 l1 y116 (wrap64 ((l0.length:Int) - 1)))=some r:=by first|(rw [hy116];with_reducible exact H)|(have H2_:=(Option.bind_some _ _).symm.trans H;rw [hy116];with_reducible exact H2_)|(have H2_:=(Option.bind_some _ _).symm.trans H;with_reducible exact H2_)|with_reducible exact H|(rw [hy116];exact H)|exact H
 have Ny116:=Aside0.mk hy116
 clear hy116
 have H':=Aside0.mk H
 clear H
 go_enter Try.func37,Try.ntmps37
 go_wp2_with (first|((with_reducible refine gate_dst (N:=11) rfl ?_);refine Kd.S_make (Kd.slice 3 (Kd.int .i64)) _ 49 rfl (N:=11) rfl 68 _ _ rfl ji3 rfl rfl Try.underlying68 (.slice none 0 0) 24 ginfoS rfl (by decide) (by omega) [] (ok:=fun _=>True) (okp:=fun _=>True) ⟨_,rfl,Kd.R_nil _ _ _ _ _⟩ (fun _ hk=>hk) trivial (of_decide_eq_true asm) (Nat.le_trans (Nat.mul_le_mul_right _ (of_decide_eq_true asm:ji3.toNat≤11728124029610)) (by omega)) (Below.refl _ _) (Nat.le_refl _) ?_;intro v111 w12 ho13 hb hg_ hnew_;clear hg_ hnew_;(first|rw [← Ny110.out] at ho13|(simp only [Int.reduceToNat] at ho13;rw [← Ny110.out] at ho13));have n0_:=Aside0.mk (Kd.S_lower ho13 (below_size bel));have n1_:=Aside0.mk (below_step bel hb);clear HB;have HO112:=n0_;have HB:=n1_;clear n0_ n1_;clear hb ho13)|((with_reducible refine gate_dst (N:=18) rfl ?_);refine Kd.R_make (Kd.int .i64) _ 3 rfl (N:=18) rfl 49 _ _ rfl ji6 rfl rfl Try.underlying49 (.int .i64 0) 8 ginfoIn rfl (by decide) (by omega) 0 (ok:=fun _=>True) (okp:=fun _=>True) rfl (fun _ hk=>hk) trivial (of_decide_eq_true asm) (Nat.le_trans (Nat.mul_le_mul_right _ (of_decide_eq_true asm:ji6.toNat≤35184372088832)) (by omega)) (Below.refl _ _) (Nat.le_refl _) ?_;intro v114 w14 ho15 hb hg_ hnew_;clear hg_ hnew_;(first|rw [← Ny113.out] at ho15|(simp only [Int.reduceToNat] at ho15;rw [← Ny113.out] at ho15));have n0_:=Aside0.mk (Kd.S_elder' (by (with_reducible repeat (first|apply Kd.S_alloc|apply Kd.S_drewN|apply Kd.S_drew));exact HO112.out) (Kd.R_base ho15) hb);have n1_:=Aside0.mk (Kd.R_lower ho15 (below_size bel));have n2_:=Aside0.mk (below_step bel hb);clear HO112;clear HB;have HO112:=n0_;have HO115:=n1_;have HB:=n2_;clear n0_ n1_ n2_;clear hb ho15;have p11:0≤((l0.length:Int):Int):=of_decide_eq_true asm;have q11:((l0.length:Int):Int)<((y110.length:Int):Int):=of_decide_eq_true asm;obtain ⟨go11,co11,eo11,gb11,gl11,cl11,HG11⟩:=Kd.S_form HO112.out (by omega);(first|cases eo11|(injection eo11 with ea_ en_ ec_;(first|subst ea_|(injection ea_ with ea_;subst ea_));subst ec_;clear en_));have GB11:=Aside0.mk gb11;have GG11:=Aside0.mk HG11;clear gb11 gl11 HG11;obtain ⟨_,ce11,hcl11,hM11,hcc11,hfr11,_,_⟩:=Kd.S_elem HO112.out [] ((l0.length:Int):Int) p11 q11;obtain ⟨ve11_0,rfl,ge11_0⟩:=hM11;have hx11_0:=hcc11 0 _ rfl;(try simp only [Int.toNat_natCast] at hx11_0);have hf11_0:=hfr11 0;(try simp only [Int.toNat_natCast] at hf11_0);(try simp only [show ((Kd.slice 3 (Kd.int .i64))).sz=1 from rfl,Nat.mul_one,Nat.add_zero] at hx11_0);(try simp only [show ((Kd.slice 3 (Kd.int .i64))).sz=1 from rfl,Nat.mul_one,Nat.add_zero] at hf11_0);(try clear hcl11);(try clear hcc11);(try clear hfr11);(try (try (try clear hM11)));replace p11:=eq_true p11;replace q11:=eq_true q11;have n_:=Aside0.mk (Kd.S_mono (ok':=(fun k_=>some k_≠(v114:Value).ownBlock)) HO112.out (fun k_ hk=>hk.2));clear HO112;have HO112:=n_;clear n_;have HX16:=Aside0.mk (show Kd.S (Kd.slice 3 (Kd.int .i64)) 49 w14 w.heap.size (fun k_=>((fun _=>True)) k_∧¬ ((fun k_=>some k_=(v114:Value).ownBlock)) k_) (.slice (some ⟨go11,0,none⟩) y110.length co11) y110 from (by (with_reducible repeat (first|apply Kd.S_alloc|apply Kd.S_drewN|apply Kd.S_drew));exact Kd.S_mono HO112.out (fun k_ hk=>⟨trivial,fun e_=>hk e_⟩)));obtain ⟨oki16,ce16,hcl16,hM16,hcc16,hfr16,hoki16,hH16⟩:=Kd.S_elem HX16.out [] ((l0.length:Int):Int) (of_decide_eq_true asm) (by have h_:((l0.length:Int):Int)<((y110.length:Int):Int):=of_decide_eq_true asm;first|exact h_|(have e_:=(Kd.S_reads' HO112.out).1;omega)|simpa using h_);obtain ⟨ve16_0,rfl,ge16_0⟩:=hM16;have HP16:=Kd.S_seg hH16 (of_decide_eq_true asm) (by have h_:((l0.length:Int):Int)<((y110.length:Int):Int):=of_decide_eq_true asm;first|exact h_|(have e_:=(Kd.S_reads' HO112.out).1;omega)|simpa using h_) (seg:=[v114]) (j:=0) (show 1≤1 from by decide) (x':=y113) (Kd.M_row (Kd.R_mono (Kd.R_tight rfl (Kd.R_mono (ok':=fun k_=>((fun _=>True)) k_∧k_≠go11) (Kd.R_apart' (HO115.out) (Kd.S_typed HO112.out) (by decide)) (fun k_ hk=>⟨trivial,fun e_=>(hk.2) (by rw [e_];rfl)⟩))) (fun _ h_=>Or.inr (h_)))) (fun _ hk=>hk) (fun k_ hk_=>((Kd.R_mono (ok':=fun k_=>((fun _=>True)) k_∧k_≠go11) (Kd.R_apart' (HO115.out) (Kd.S_typed HO112.out) (by decide)) (fun k_ hk=>⟨trivial,fun e_=>(hk.2) (by rw [e_];rfl)⟩))).1 k_ hk_.symm);have hx16_0:=hcc16 0 _ rfl;(try simp only [Int.toNat_natCast] at hx16_0);(try simp only [show ((Kd.slice 3 (Kd.int .i64))).sz=1 from rfl,Nat.mul_one,Nat.add_zero] at hx16_0);have hf16_0:=hfr16 0;(try simp only [Int.toNat_natCast] at hf16_0);(try simp only [show ((Kd.slice 3 (Kd.int .i64))).sz=1 from rfl,Nat.mul_one,Nat.add_zero] at hf16_0);(try clear hcl16);(try clear hcc16);(try clear hfr16);(try (try (try clear hM16)));(try clear hoki16);(try clear hH16);(try simp only [show ((Kd.slice 3 (Kd.int .i64))).sz=1 from rfl,Nat.mul_one,Nat.add_zero] at HP16))|((with_reducible refine gate_store (t:=49) (p:=19) rfl ?_);refine store_event (t:=49) (p:=19) (v:=?vo_w17) (w1:=(w14.setCell ⟨go11,((l0.length:Int):Int).toNat,none⟩ (v114))) ?hg ?ho ?hn ?hr ?_;(case ho=>rfl);(case hg=>rfl);(case hn=>rfl);(case hr=>first|(go_simp;done)|(go_simp;rfl)|(obtain ⟨A_,c_,e_⟩:=Kd.R_slice HO115.out;cases e_;first|(go_simp;done)|(go_simp;rfl)));intro w17 hw;have hg:w14.grownBy w17 (some go11):=(by rw [hw];exact HP16.2);have hp_:Kd.S (Kd.slice 3 (Kd.int .i64)) 49 w17 w.heap.size (fun _=>True) (.slice (some ⟨go11,0,none⟩) y110.length co11) y116:=(by rw [hw,Ny116.out];exact HP16.1);clear HP16;have n0_:=Aside0.mk (hp_);have n1_:=Aside0.mk ((by rw [hw];exact below_set (HB.out) GB11.out:Below w.heap.size w w17));clear HO112;clear HB;clear HO115;have HO112:=n0_;have HB:=n1_;clear n0_ n1_;clear hg hw hp_))
 go_loopg [6] k (fun kq v6 w'=>∃ (x5_1:List (List Int)) (x6_1:Int),v6=.int .i64 x6_1∧Aside0 (diff_table.l0 kq l0 l1 x5_1 x6_1=some r)∧Aside0 (kq≤k)∧Aside0 (Kd.S (Kd.slice 3 (Kd.int .i64)) 49 w' w.heap.size (fun _=>True) (.slice (some ⟨go11,0,none⟩) y110.length co11) x5_1)∧Aside0 (Below w.heap.size w w'))
 case atStart=>exact ⟨(y116),(wrap64 ((l0.length:Int) - 1)),rx,H',⟨Nat.le_refl _⟩,⟨by (with_reducible repeat (first|apply Kd.S_alloc|apply Kd.S_drewN|apply Kd.S_drew));exact HO112.out⟩,⟨by repeat (first|(with_reducible first|exact HB.out|apply below_alloc|apply pw_below_drewN|apply below_drew1)|exact HB.out)⟩⟩
 case round =>
  clear H'
  try clear c1
  try clear p1
  try clear q1
  try clear hx1
  try clear p2
  try clear c3
  try clear c4
  try clear c4b0
  try clear c4b1
  try clear c5
  try clear c5b0
  try clear c5b1
  try clear p6
  try clear c7
  try clear c7b0
  try clear c7b1
  try clear c8
  try clear c8b0
  try clear c8b1
  try clear c9
  try clear c9b0
  try clear c9b1
  try clear c10
  try clear c10b0
  try clear c10b1
  try clear c11
  try clear p11
  try clear q11
  try clear hx11
  try clear hf11
  try clear c16
  try clear hx16
  try clear hf16
  try clear hx11_0
  try clear hx16_0
  try clear p11
  try clear q11
  obtain ⟨x5_1,x6_1,rfl,HA,HK1,HO_5,HB⟩:=hrel
  have hl5_1:=(Kd.S_reads' HO_5.out).1
  rw [hl5_1] at HO_5
  (try simp only [hl5_1])
  cases gk with
  | zero=>exact absurd HA.out (by simp [diff_table.l0])
  | succ k1 =>
   have H:=HA.out
   clear HA
   simp only [diff_table.l0] at H
   by_cases c18:x6_1 ≥ 0
   rotate_left
   ·rw [if_neg c18] at H
    have c18b0:decide (0≤x6_1)=false:=decide_eq_false c18
    clear c18
    obtain rfl:=Option.some.inj H
    go_wp2
    go_ret
    exact ⟨_,by first|rfl|(simp [errW_none,errW_some]<;>rfl)|(simp only [← hji3,← hji6];first|rfl|(simp [errW_none,errW_some]<;>rfl))|(simp [*,errW_none,errW_some]<;>rfl),by (with_reducible repeat (first|apply Kd.S_alloc|apply Kd.S_drewN|apply Kd.S_drew));exact HO_5.out,bel⟩
   rw [if_pos c18] at H
   have c18b0:decide (0≤x6_1)=true:=decide_eq_true c18
   clear c18
   try clear hji6w
   try clear hji6w
   try clear hji6w
   try clear hji6w
   try clear hji6w
   obtain ⟨ji19,hji19⟩:∃ j_:Int,(wrap64 ((l1.length:Int)+1))=j_:=⟨_,rfl⟩
   replace H:(if 0≤(ji19) then (if (ji19:Int).toNat≤35184372088832 then (if 0≤x6_1 then (if x6_1<(x5_1.length:Int) then (diff_table.l1 k1 l0 l1 (x5_1.set (x6_1:Int).toNat (List.replicate (ji19:Int).toNat 0)) x6_1 (wrap64 ((l1.length:Int) - 1))) else (none)) else (none)) else (none)) else (none))=some r:=by first|(rw [hji19] at H;exact H)|(simp only [hji19] at H ⊢;exact H)
   have hji19w:(IntKind.i64.wrap ((l1.length:Int)+1))=ji19:=(i64_w _).trans hji19
   by_cases c20:0≤(ji19)
   rotate_left
   ·rw [if_neg c20] at H
    exact absurd H (by simp)
   rw [if_pos c20] at H
   have c20b0:=eq_true c20
   have c20b1:decide (0≤(ji19))=true:=decide_eq_true c20
   clear c20
   by_cases c21:(ji19:Int).toNat≤35184372088832
   rotate_left
   ·rw [if_neg c21] at H
    exact absurd H (by simp)
   rw [if_pos c21] at H
   have c21b0:=eq_true c21
   have c21b1:decide ((ji19:Int).toNat≤35184372088832)=true:=decide_eq_true c21
   clear c21
   obtain ⟨y117,hy117⟩:∃ y_:List Int,y_=(List.replicate (ji19:Int).toNat 0):=⟨_,rfl⟩
   replace H:(if 0≤x6_1 then (if x6_1<(x5_1.length:Int) then (diff_table.l1 k1 l0 l1 (x5_1.set (x6_1:Int).toNat y117) x6_1 (wrap64 ((l1.length:Int) - 1))) else (none)) else (none))=some r:=by first|(rw [hy117];with_reducible exact H)|(have H2_:=(Option.bind_some _ _).symm.trans H;rw [hy117];with_reducible exact H2_)|(have H2_:=(Option.bind_some _ _).symm.trans H;with_reducible exact H2_)|with_reducible exact H|(rw [hy117];exact H)|exact H
   have Ny117:=Aside0.mk hy117
   clear hy117
   by_cases c22:0≤x6_1
   rotate_left
   ·rw [if_neg c22] at H
    exact absurd H (by simp)
   rw [if_pos c22] at H
   have c22b0:decide (0≤x6_1)=true:=decide_eq_true c22
   clear c22
   by_cases c23:x6_1<(x5_1.length:Int)
   rotate_left
   ·rw [if_neg c23] at H
    exact absurd H (by simp)
   rw [if_pos c23] at H
   have c23b0:decide (x6_1<(x5_1.length:Int))=true:=decide_eq_true c23
   clear c23
   obtain ⟨y120,hy120⟩:∃ y_:List (List Int),y_=(x5_1.set (x6_1:Int).toNat y117):=⟨_,rfl⟩
   replace H:(diff_table.l1 k1 l0 l1 y120 x6_1 (wrap64 ((l1.length:Int) - 1)))=some r:=by first|(rw [hy120];with_reducible exact H)|(have H2_:=(Option.bind_some _ _).symm.trans H;rw [hy120];with_reducible exact H2_)|(have H2_:=(Option.bind_some _ _).symm.trans H;with_reducible exact H2_)|with_reducible exact H|(rw [hy120];exact H)|exact H
   have Ny120:=Aside0.mk hy120
   clear hy120
   have H':=Aside0.mk H
   clear H
   go_wp2_with (first|((with_reducible refine gate_dst (N:=32) rfl ?_);refine Kd.R_make (Kd.int .i64) _ 3 rfl (N:=32) rfl 49 _ _ rfl ji19 rfl rfl Try.underlying49 (.int .i64 0) 8 ginfoIn rfl (by decide) (by omega) 0 (ok:=fun _=>True) (okp:=fun _=>True) rfl (fun _ hk=>hk) trivial (of_decide_eq_true asm) (Nat.le_trans (Nat.mul_le_mul_right _ (of_decide_eq_true asm:ji19.toNat≤35184372088832)) (by omega)) (Below.refl _ _) (Nat.le_refl _) ?_;intro v118 w25 ho26 hb hg_ hnew_;clear hg_ hnew_;(first|rw [← Ny117.out] at ho26|(simp only [Int.reduceToNat] at ho26;rw [← Ny117.out] at ho26));have n0_:=Aside0.mk (Kd.S_elder' (by (with_reducible repeat (first|apply Kd.S_alloc|apply Kd.S_drewN|apply Kd.S_drew));exact HO_5.out) (Kd.R_base ho26) hb);have n1_:=Aside0.mk (Kd.R_lower ho26 (below_size bel));have n2_:=Aside0.mk (below_step bel hb);clear HO_5;clear HB;have HO_5:=n0_;have HO119:=n1_;have HB:=n2_;clear n0_ n1_ n2_;clear hb ho26;have p24:0≤(x6_1:Int):=of_decide_eq_true asm;have q24:(x6_1:Int)<((x5_1.length:Int):Int):=of_decide_eq_true asm;obtain ⟨_,ce24,hcl24,hM24,hcc24,hfr24,_,_⟩:=Kd.S_elem HO_5.out [] (x6_1:Int) p24 q24;obtain ⟨ve24_0,rfl,ge24_0⟩:=hM24;have hx24_0:=hcc24 0 _ rfl;(try simp only [Int.toNat_natCast] at hx24_0);have hf24_0:=hfr24 0;(try simp only [Int.toNat_natCast] at hf24_0);(try simp only [show ((Kd.slice 3 (Kd.int .i64))).sz=1 from rfl,Nat.mul_one,Nat.add_zero] at hx24_0);(try simp only [show ((Kd.slice 3 (Kd.int .i64))).sz=1 from rfl,Nat.mul_one,Nat.add_zero] at hf24_0);(try clear hcl24);(try clear hcc24);(try clear hfr24);(try (try (try clear hM24)));replace p24:=eq_true p24;replace q24:=eq_true q24;have n_:=Aside0.mk (Kd.S_mono (ok':=(fun k_=>some k_≠(v118:Value).ownBlock)) HO_5.out (fun k_ hk=>hk.2));clear HO_5;have HO_5:=n_;clear n_;have HX27:=Aside0.mk (show Kd.S (Kd.slice 3 (Kd.int .i64)) 49 w25 w.heap.size (fun k_=>((fun _=>True)) k_∧¬ ((fun k_=>some k_=(v118:Value).ownBlock)) k_) (.slice (some ⟨go11,0,none⟩) x5_1.length co11) x5_1 from (by (with_reducible repeat (first|apply Kd.S_alloc|apply Kd.S_drewN|apply Kd.S_drew));exact Kd.S_mono HO_5.out (fun k_ hk=>⟨trivial,fun e_=>hk e_⟩)));obtain ⟨oki27,ce27,hcl27,hM27,hcc27,hfr27,hoki27,hH27⟩:=Kd.S_elem HX27.out [] (x6_1:Int) (of_decide_eq_true asm) (by have h_:(x6_1:Int)<((x5_1.length:Int):Int):=of_decide_eq_true asm;first|exact h_|(have e_:=(Kd.S_reads' HO_5.out).1;omega)|simpa using h_);obtain ⟨ve27_0,rfl,ge27_0⟩:=hM27;have HP27:=Kd.S_seg hH27 (of_decide_eq_true asm) (by have h_:(x6_1:Int)<((x5_1.length:Int):Int):=of_decide_eq_true asm;first|exact h_|(have e_:=(Kd.S_reads' HO_5.out).1;omega)|simpa using h_) (seg:=[v118]) (j:=0) (show 1≤1 from by decide) (x':=y117) (Kd.M_row (Kd.R_mono (Kd.R_tight rfl (Kd.R_mono (ok':=fun k_=>((fun _=>True)) k_∧k_≠go11) (Kd.R_apart' (HO119.out) (Kd.S_typed HO_5.out) (by decide)) (fun k_ hk=>⟨trivial,fun e_=>(hk.2) (by rw [e_];rfl)⟩))) (fun _ h_=>Or.inr (h_)))) (fun _ hk=>hk) (fun k_ hk_=>((Kd.R_mono (ok':=fun k_=>((fun _=>True)) k_∧k_≠go11) (Kd.R_apart' (HO119.out) (Kd.S_typed HO_5.out) (by decide)) (fun k_ hk=>⟨trivial,fun e_=>(hk.2) (by rw [e_];rfl)⟩))).1 k_ hk_.symm);have hx27_0:=hcc27 0 _ rfl;(try simp only [Int.toNat_natCast] at hx27_0);(try simp only [show ((Kd.slice 3 (Kd.int .i64))).sz=1 from rfl,Nat.mul_one,Nat.add_zero] at hx27_0);have hf27_0:=hfr27 0;(try simp only [Int.toNat_natCast] at hf27_0);(try simp only [show ((Kd.slice 3 (Kd.int .i64))).sz=1 from rfl,Nat.mul_one,Nat.add_zero] at hf27_0);(try clear hcl27);(try clear hcc27);(try clear hfr27);(try (try (try clear hM27)));(try clear hoki27);(try clear hH27);(try simp only [show ((Kd.slice 3 (Kd.int .i64))).sz=1 from rfl,Nat.mul_one,Nat.add_zero] at HP27))|((with_reducible refine gate_store (t:=49) (p:=33) rfl ?_);refine store_event (t:=49) (p:=33) (v:=?vo_w28) (w1:=(w25.setCell ⟨go11,(x6_1:Int).toNat,none⟩ (v118))) ?hg ?ho ?hn ?hr ?_;(case ho=>rfl);(case hg=>rfl);(case hn=>rfl);(case hr=>first|(go_simp;done)|(go_simp;rfl)|(obtain ⟨A_,c_,e_⟩:=Kd.R_slice HO119.out;cases e_;first|(go_simp;done)|(go_simp;rfl)));intro w28 hw;have hg:w25.grownBy w28 (some go11):=(by rw [hw];exact HP27.2);have hp_:Kd.S (Kd.slice 3 (Kd.int .i64)) 49 w28 w.heap.size (fun _=>True) (.slice (some ⟨go11,0,none⟩) x5_1.length co11) y120:=(by rw [hw,Ny120.out];exact HP27.1);clear HP27;have n0_:=Aside0.mk (hp_);have n1_:=Aside0.mk ((by rw [hw];exact below_set (HB.out) GB11.out:Below w.heap.size w w28));clear HO_5;clear HB;clear HO119;have HO_5:=n0_;have HB:=n1_;clear n0_ n1_;clear hg hw hp_))
   go_loopg [7] k1 (fun kq v7 w'=>∃ (x5_2:List (List Int)) (x7_2:Int),v7=.int .i64 x7_2∧Aside0 (diff_table.l1 kq l0 l1 x5_2 x6_1 x7_2=some r)∧Aside0 (kq≤k1)∧Aside0 (Kd.S (Kd.slice 3 (Kd.int .i64)) 49 w' w.heap.size (fun _=>True) (.slice (some ⟨go11,0,none⟩) x5_1.length co11) x5_2)∧Aside0 (Below w.heap.size w w'))
   case atStart=>exact ⟨(y120),(wrap64 ((l1.length:Int) - 1)),rx,H',⟨Nat.le_refl _⟩,⟨by (try simp only [hl5_1]);(with_reducible repeat (first|apply Kd.S_alloc|apply Kd.S_drewN|apply Kd.S_drew));exact HO_5.out⟩,⟨by repeat (first|(with_reducible first|exact HB.out|apply below_alloc|apply pw_below_drewN|apply below_drew1)|exact HB.out)⟩⟩
   case round =>
    clear H'
    try clear c1
    try clear p1
    try clear q1
    try clear hx1
    try clear c2
    try clear p2
    try clear q2
    try clear hx2
    try clear hf2
    try clear c3
    try clear c4
    try clear c4b0
    try clear c4b1
    try clear c5
    try clear c5b0
    try clear c5b1
    try clear p6
    try clear c7
    try clear c7b0
    try clear c7b1
    try clear c8
    try clear c8b0
    try clear c8b1
    try clear c9
    try clear c9b0
    try clear c9b1
    try clear c10
    try clear c10b0
    try clear c10b1
    try clear c11
    try clear p11
    try clear q11
    try clear hx11
    try clear hf11
    try clear c16
    try clear hx16
    try clear hf16
    try clear c18
    try clear c18b0
    try clear c20
    try clear c20b0
    try clear c20b1
    try clear c21
    try clear c21b0
    try clear c21b1
    try clear c22
    try clear c22b0
    try clear c23
    try clear c23b0
    try clear c24
    try clear p24
    try clear q24
    try clear hx24
    try clear hf24
    try clear c27
    try clear hx27
    try clear hf27
    try clear hx11_0
    try clear hx16_0
    try clear hx24_0
    try clear hx27_0
    try clear p1
    try clear p11
    try clear p2
    try clear p24
    try clear p6
    try clear q1
    try clear q11
    try clear q24
    obtain ⟨x5_2,x7_2,rfl,HA,HK2,HO_5,HB⟩:=hrel
    have hl5_2:=(Kd.S_reads' HO_5.out).1
    rw [hl5_2] at HO_5
    (try simp only [hl5_2])
    cases gk with
    | zero=>exact absurd HA.out (by simp [diff_table.l1])
    | succ k2 =>
     have H:=HA.out
     clear HA
     simp only [diff_table.l1] at H
     by_cases c29:x7_2 ≥ 0
     rotate_left
     ·rw [if_neg c29] at H
      have c29b0:decide (0≤x7_2)=false:=decide_eq_false c29
      clear c29
      have H':=Aside0.mk H
      clear H
      go_wp2
      (try simp only [← hl5_1,← hl5_2])
      go_roundg k2
      case measure=>have:=HK1.out;have:=HK2.out;omega
      case rel=>exact ⟨(x5_2),(wrap64 (x6_1 - 1)),rx,H',⟨by have:=HK1.out;have:=HK2.out;omega⟩,⟨by (try simp only [hl5_1]);(try simp only [hl5_2]);(with_reducible repeat (first|apply Kd.S_alloc|apply Kd.S_drewN|apply Kd.S_drew));exact HO_5.out⟩,⟨by repeat (first|(with_reducible first|exact HB.out|apply below_alloc|apply pw_below_drewN|apply below_drew1)|exact HB.out)⟩⟩
     rw [if_pos c29] at H
     have c29b0:decide (0≤x7_2)=true:=decide_eq_true c29
     clear c29
     by_cases c30:0≤x6_1
     rotate_left
     ·rw [if_neg c30] at H
      exact absurd H (by simp)
     rw [if_pos c30] at H
     have c30b0:decide (0≤x6_1)=true:=decide_eq_true c30
     clear c30
     by_cases c31:x6_1<(x5_2.length:Int)
     rotate_left
     ·rw [if_neg c31] at H
      exact absurd H (by simp)
     rw [if_pos c31] at H
     have c31b0:decide (x6_1<(x5_2.length:Int))=true:=decide_eq_true c31
     clear c31
     obtain ⟨ji32,hji32⟩:∃ j_:Int,(wrap64 (x6_1+1))=j_:=⟨_,rfl⟩
     replace H:(if 0≤(ji32) then (if (ji32)<(x5_2.length:Int) then (if 0≤x7_2 then (if x7_2<((rd_LI x5_2 (ji32)).length:Int) then (if 0≤(wrap64 (x7_2+1)) then (if (wrap64 (x7_2+1))<((rd_LI x5_2 x6_1).length:Int) then (if x7_2<((rd_LI x5_2 x6_1).length:Int) then ((some (x5_2.set (x6_1:Int).toNat ((rd_LI x5_2 x6_1).set (x7_2:Int).toNat (mx (rd (rd_LI x5_2 (ji32)) x7_2) (rd (rd_LI x5_2 x6_1) (wrap64 (x7_2+1))))):List (List Int))).bind fun y128=>(if x6_1<(l0.length:Int) then (if x7_2<(l1.length:Int) then (if (rdOf ByteArray.empty l0 x6_1).toList=(rdOf ByteArray.empty l1 x7_2).toList then (if (wrap64 (x7_2+1))<((rd_LI y128 (ji32)).length:Int) then (if x7_2<((rd_LI y128 x6_1).length:Int) then (diff_table.l1 k2 l0 l1 (y128.set (x6_1:Int).toNat ((rd_LI y128 x6_1).set (x7_2:Int).toNat (wrap64 ((rd (rd_LI y128 (ji32)) (wrap64 (x7_2+1)))+1)))) x6_1 (wrap64 (x7_2 - 1))) else (none)) else (none)) else (diff_table.l1 k2 l0 l1 y128 x6_1 (wrap64 (x7_2 - 1)))) else (none)) else (none))) else (none)) else (none)) else (none)) else (none)) else (none)) else (none)) else (none))=some r:=by first|(rw [hji32] at H;exact H)|(simp only [hji32] at H ⊢;exact H)
     have hji32w:(IntKind.i64.wrap (x6_1+1))=ji32:=(i64_w _).trans hji32
     by_cases c33:0≤(ji32)
     rotate_left
     ·rw [if_neg c33] at H
      exact absurd H (by simp)
     rw [if_pos c33] at H
     have c33b0:decide (0≤(ji32))=true:=decide_eq_true c33
     clear c33
     by_cases c34:(ji32)<(x5_2.length:Int)
     rotate_left
     ·rw [if_neg c34] at H
      exact absurd H (by simp)
     rw [if_pos c34] at H
     have c34b0:decide ((ji32)<(x5_2.length:Int))=true:=decide_eq_true c34
     clear c34
     by_cases c35:0≤x7_2
     rotate_left
     ·rw [if_neg c35] at H
      exact absurd H (by simp)
     rw [if_pos c35] at H
     have c35b0:decide (0≤x7_2)=true:=decide_eq_true c35
     clear c35
     by_cases c36:x7_2<((rd_LI x5_2 (ji32)).length:Int)
     rotate_left
     ·rw [if_neg c36] at H
      exact absurd H (by simp)
     rw [if_pos c36] at H
     have c36b0:decide (x7_2<((rd_LI x5_2 (ji32)).length:Int))=true:=decide_eq_true c36
     clear c36
     obtain ⟨ji37,hji37⟩:∃ j_:Int,(wrap64 (x7_2+1))=j_:=⟨_,rfl⟩
     replace H:(if 0≤(ji37) then (if (ji37)<((rd_LI x5_2 x6_1).length:Int) then (if x7_2<((rd_LI x5_2 x6_1).length:Int) then ((some (x5_2.set (x6_1:Int).toNat ((rd_LI x5_2 x6_1).set (x7_2:Int).toNat (mx (rd (rd_LI x5_2 (ji32)) x7_2) (rd (rd_LI x5_2 x6_1) (ji37)))):List (List Int))).bind fun y128=>(if x6_1<(l0.length:Int) then (if x7_2<(l1.length:Int) then (if (rdOf ByteArray.empty l0 x6_1).toList=(rdOf ByteArray.empty l1 x7_2).toList then (if (ji37)<((rd_LI y128 (ji32)).length:Int) then (if x7_2<((rd_LI y128 x6_1).length:Int) then (diff_table.l1 k2 l0 l1 (y128.set (x6_1:Int).toNat ((rd_LI y128 x6_1).set (x7_2:Int).toNat (wrap64 ((rd (rd_LI y128 (ji32)) (ji37))+1)))) x6_1 (wrap64 (x7_2 - 1))) else (none)) else (none)) else (diff_table.l1 k2 l0 l1 y128 x6_1 (wrap64 (x7_2 - 1)))) else (none)) else (none))) else (none)) else (none)) else (none))=some r:=by first|(rw [hji37] at H;exact H)|(simp only [hji37] at H ⊢;exact H)
     have hji37w:(IntKind.i64.wrap (x7_2+1))=ji37:=(i64_w _).trans hji37
     by_cases c38:0≤(ji37)
     rotate_left
     ·rw [if_neg c38] at H
      exact absurd H (by simp)
     rw [if_pos c38] at H
     have c38b0:decide (0≤(ji37))=true:=decide_eq_true c38
     clear c38
     by_cases c39:(ji37)<((rd_LI x5_2 x6_1).length:Int)
     rotate_left
     ·rw [if_neg c39] at H
      exact absurd H (by simp)
     rw [if_pos c39] at H
     have c39b0:decide ((ji37)<((rd_LI x5_2 x6_1).length:Int))=true:=decide_eq_true c39
     clear c39
     obtain ⟨ji40,hji40⟩:∃ j_:Int,(mx (rd (rd_LI x5_2 (ji32)) x7_2) (rd (rd_LI x5_2 x6_1) (ji37)))=j_:=⟨_,rfl⟩
     replace H:(if x7_2<((rd_LI x5_2 x6_1).length:Int) then ((some (x5_2.set (x6_1:Int).toNat ((rd_LI x5_2 x6_1).set (x7_2:Int).toNat (ji40)):List (List Int))).bind fun y128=>(if x6_1<(l0.length:Int) then (if x7_2<(l1.length:Int) then (if (rdOf ByteArray.empty l0 x6_1).toList=(rdOf ByteArray.empty l1 x7_2).toList then (if (ji37)<((rd_LI y128 (ji32)).length:Int) then (if x7_2<((rd_LI y128 x6_1).length:Int) then (diff_table.l1 k2 l0 l1 (y128.set (x6_1:Int).toNat ((rd_LI y128 x6_1).set (x7_2:Int).toNat (wrap64 ((rd (rd_LI y128 (ji32)) (ji37))+1)))) x6_1 (wrap64 (x7_2 - 1))) else (none)) else (none)) else (diff_table.l1 k2 l0 l1 y128 x6_1 (wrap64 (x7_2 - 1)))) else (none)) else (none))) else (none))=some r:=by first|(rw [hji40] at H;exact H)|(simp only [hji40] at H ⊢;exact H)
     have hji40_:(if (rd (rd_LI x5_2 (ji32)) x7_2)<(rd (rd_LI x5_2 x6_1) (ji37)) then (rd (rd_LI x5_2 x6_1) (ji37)) else (rd (rd_LI x5_2 (ji32)) x7_2))=ji40:=hji40
     by_cases c41:x7_2<((rd_LI x5_2 x6_1).length:Int)
     rotate_left
     ·rw [if_neg c41] at H
      exact absurd H (by simp)
     rw [if_pos c41] at H
     have c41b0:decide (x7_2<((rd_LI x5_2 x6_1).length:Int))=true:=decide_eq_true c41
     clear c41
     obtain ⟨y126,hy126⟩:∃ y_:List Int,y_=((rd_LI x5_2 x6_1).set (x7_2:Int).toNat (ji40)):=⟨_,rfl⟩
     replace H:((some (x5_2.set (x6_1:Int).toNat y126:List (List Int))).bind fun y128=>(if x6_1<(l0.length:Int) then (if x7_2<(l1.length:Int) then (if (rdOf ByteArray.empty l0 x6_1).toList=(rdOf ByteArray.empty l1 x7_2).toList then (if (ji37)<((rd_LI y128 (ji32)).length:Int) then (if x7_2<((rd_LI y128 x6_1).length:Int) then (diff_table.l1 k2 l0 l1 (y128.set (x6_1:Int).toNat ((rd_LI y128 x6_1).set (x7_2:Int).toNat (wrap64 ((rd (rd_LI y128 (ji32)) (ji37))+1)))) x6_1 (wrap64 (x7_2 - 1))) else (none)) else (none)) else (diff_table.l1 k2 l0 l1 y128 x6_1 (wrap64 (x7_2 - 1)))) else (none)) else (none)))=some r:=by first|(rw [hy126];with_reducible exact H)|(have H2_:=(Option.bind_some _ _).symm.trans H;rw [hy126];with_reducible exact H2_)|(have H2_:=(Option.bind_some _ _).symm.trans H;with_reducible exact H2_)|with_reducible exact H|(rw [hy126];exact H)|exact H
     have Ny126:=Aside0.mk hy126
     clear hy126
     obtain ⟨y128,hy128⟩:∃ y_:List (List Int),y_=(x5_2.set (x6_1:Int).toNat y126):=⟨_,rfl⟩
     replace H:(if x6_1<(l0.length:Int) then (if x7_2<(l1.length:Int) then (if (rdOf ByteArray.empty l0 x6_1).toList=(rdOf ByteArray.empty l1 x7_2).toList then (if (ji37)<((rd_LI y128 (ji32)).length:Int) then (if x7_2<((rd_LI y128 x6_1).length:Int) then (diff_table.l1 k2 l0 l1 (y128.set (x6_1:Int).toNat ((rd_LI y128 x6_1).set (x7_2:Int).toNat (wrap64 ((rd (rd_LI y128 (ji32)) (ji37))+1)))) x6_1 (wrap64 (x7_2 - 1))) else (none)) else (none)) else (diff_table.l1 k2 l0 l1 y128 x6_1 (wrap64 (x7_2 - 1)))) else (none)) else (none))=some r:=by first|(rw [hy128];with_reducible exact H)|(have H2_:=(Option.bind_some _ _).symm.trans H;rw [hy128];with_reducible exact H2_)|(have H2_:=(Option.bind_some _ _).symm.trans H;with_reducible exact H2_)|with_reducible exact H|(rw [hy128];exact H)|exact H
     have Ny128:=Aside0.mk hy128
     clear hy128
     by_cases c43:x6_1<(l0.length:Int)
     rotate_left
     ·rw [if_neg c43] at H
      exact absurd H (by simp)
     rw [if_pos c43] at H
     have c43b0:decide (x6_1<(l0.length:Int))=true:=decide_eq_true c43
     clear c43
     by_cases c44:x7_2<(l1.length:Int)
     rotate_left
     ·rw [if_neg c44] at H
      exact absurd H (by simp)
     rw [if_pos c44] at H
     have c44b0:decide (x7_2<(l1.length:Int))=true:=decide_eq_true c44
     clear c44
     by_cases c45:(rdOf ByteArray.empty l0 x6_1).toList=(rdOf ByteArray.empty l1 x7_2).toList
     rotate_left
     ·rw [if_neg c45] at H
      have c45b0:((rdOf ByteArray.empty l0 x6_1).toList == (rdOf ByteArray.empty l1 x7_2).toList)=false:=beq_eq_false_iff_ne.mpr c45
      have c45b1:((rdOf ByteArray.empty l0 x6_1).toList != (rdOf ByteArray.empty l1 x7_2).toList)=true:=bne_iff_ne.mpr c45
      have H':=Aside0.mk H
      clear H
      try go_wp2
      have n0_:=Aside0.mk (Kd.S_drew HO_5.out)
      have n1_:=Aside0.mk (below_drew1 HB.out)
      clear HO_5
      clear HB
      have HO_5:=n0_
      have HB:=n1_
      clear n0_ n1_
      have p121:0≤(x6_1:Int):=of_decide_eq_true asm
      have q121:x6_1<(x5_2.length:Int):=of_decide_eq_true asm
      obtain ⟨ad121,A121_0,c121_0,e121,hx121_0,hl121_0,hi121_0⟩:=at_LI (Kd.S_reads' HO_5.out).2.2 x6_1 p121 q121
      obtain rfl:(⟨go11,0,none⟩:Addr)=ad121:=(by injection e121)
      obtain ⟨ce121,hce121,hMe121,hcc121⟩:=Kd.S_get HO_5.out [] x6_1 p121 (by first|exact q121|exact of_decide_eq_true asm|(have e_:=(Kd.S_reads' HO_5.out).1;omega))
      obtain ⟨ve121_0,rfl,ge121_0⟩:=hMe121
      have hv121_0:=hcc121 0 _ rfl
      rw [Nat.add_zero,show ((Kd.slice 3 (Kd.int .i64))).sz=1 from rfl,Nat.mul_one] at hv121_0
      replace hv121_0:=Option.some.inj (hv121_0.symm.trans hx121_0)
      rw [hv121_0] at ge121_0
      have HL121_0:=Aside0.mk (show Kd.R (Kd.int .i64) 3 _ _ _ _ (rd_LI x5_2 x6_1) from ge121_0)
      clear hv121_0 ge121_0
      have HX121_0:=Aside0.mk hx121_0
      clear hcc121 hce121
      (first|simp only [add_plain] at hx121_0|simp only [add_at] at hx121_0|simp only [Addr.add,Nat.zero_add] at hx121_0|skip)
      have HR121_0:=Aside0.mk hi121_0
      have HC121_0:=Aside0.mk hl121_0
      clear hi121_0 hl121_0
      replace p121:=eq_true p121
      replace q121:=eq_true q121
      have p122:0≤((ji32):Int):=of_decide_eq_true asm
      have q122:(ji32)<(x5_2.length:Int):=of_decide_eq_true asm
      obtain ⟨ad122,A122_0,c122_0,e122,hx122_0,hl122_0,hi122_0⟩:=at_LI (Kd.S_reads' HO_5.out).2.2 (ji32) p122 q122
      obtain rfl:(⟨go11,0,none⟩:Addr)=ad122:=(by injection e122)
      obtain ⟨ce122,hce122,hMe122,hcc122⟩:=Kd.S_get HO_5.out [] (ji32) p122 (by first|exact q122|exact of_decide_eq_true asm|(have e_:=(Kd.S_reads' HO_5.out).1;omega))
      obtain ⟨ve122_0,rfl,ge122_0⟩:=hMe122
      have hv122_0:=hcc122 0 _ rfl
      rw [Nat.add_zero,show ((Kd.slice 3 (Kd.int .i64))).sz=1 from rfl,Nat.mul_one] at hv122_0
      replace hv122_0:=Option.some.inj (hv122_0.symm.trans hx122_0)
      rw [hv122_0] at ge122_0
      have HL122_0:=Aside0.mk (show Kd.R (Kd.int .i64) 3 _ _ _ _ (rd_LI x5_2 (ji32)) from ge122_0)
      clear hv122_0 ge122_0
      have HX122_0:=Aside0.mk hx122_0
      clear hcc122 hce122
      (first|simp only [add_plain] at hx122_0|simp only [add_at] at hx122_0|simp only [Addr.add,Nat.zero_add] at hx122_0|skip)
      have HR122_0:=Aside0.mk hi122_0
      have HC122_0:=Aside0.mk hl122_0
      clear hi122_0 hl122_0
      replace p122:=eq_true p122
      replace q122:=eq_true q122
      have p123:0≤(x7_2:Int):=of_decide_eq_true asm
      have q123:x7_2<((rd_LI x5_2 (ji32)).length:Int):=of_decide_eq_true asm
      obtain ⟨ad123,e123,hx123_0⟩:=Kd.at_int (by repeat (first|(with_reducible exact HR122_0.out)|(with_reducible refine Kd.C_alloc ?_ _)|(with_reducible refine Kd.C_drewN ?_ _)|(with_reducible refine Kd.C_drew ?_)|exact HR122_0.out)) x7_2 p123 q123
      cases e123
      replace p123:=eq_true p123
      replace q123:=eq_true q123
      have p124:0≤(x6_1:Int):=of_decide_eq_true asm
      have q124:x6_1<(x5_2.length:Int):=of_decide_eq_true asm
      obtain ⟨ad124,A124_0,c124_0,e124,hx124_0,hl124_0,hi124_0⟩:=at_LI (Kd.S_reads' HO_5.out).2.2 x6_1 p124 q124
      obtain rfl:(⟨go11,0,none⟩:Addr)=ad124:=(by injection e124)
      obtain ⟨ce124,hce124,hMe124,hcc124⟩:=Kd.S_get HO_5.out [] x6_1 p124 (by first|exact q124|exact of_decide_eq_true asm|(have e_:=(Kd.S_reads' HO_5.out).1;omega))
      obtain ⟨ve124_0,rfl,ge124_0⟩:=hMe124
      have hv124_0:=hcc124 0 _ rfl
      rw [Nat.add_zero,show ((Kd.slice 3 (Kd.int .i64))).sz=1 from rfl,Nat.mul_one] at hv124_0
      replace hv124_0:=Option.some.inj (hv124_0.symm.trans hx124_0)
      rw [hv124_0] at ge124_0
      have HL124_0:=Aside0.mk (show Kd.R (Kd.int .i64) 3 _ _ _ _ (rd_LI x5_2 x6_1) from ge124_0)
      clear hv124_0 ge124_0
      have HX124_0:=Aside0.mk hx124_0
      clear hcc124 hce124
      (first|simp only [add_plain] at hx124_0|simp only [add_at] at hx124_0|simp only [Addr.add,Nat.zero_add] at hx124_0|skip)
      have HR124_0:=Aside0.mk hi124_0
      have HC124_0:=Aside0.mk hl124_0
      clear hi124_0 hl124_0
      replace p124:=eq_true p124
      replace q124:=eq_true q124
      have ea_:=Option.some.inj (hx121_0.symm.trans hx124_0)
      injection ea_ with ea_ en_ ec_
      subst ea_
      subst ec_
      clear en_
      have p125:0≤((ji37):Int):=of_decide_eq_true asm
      have q125:(ji37)<((rd_LI x5_2 x6_1).length:Int):=of_decide_eq_true asm
      obtain ⟨ad125,e125,hx125_0⟩:=Kd.at_int (by repeat (first|(with_reducible exact HR124_0.out)|(with_reducible refine Kd.C_alloc ?_ _)|(with_reducible refine Kd.C_drewN ?_ _)|(with_reducible refine Kd.C_drew ?_)|exact HR124_0.out)) (ji37) p125 q125
      cases e125
      replace p125:=eq_true p125
      replace q125:=eq_true q125
      have p42:0≤(x7_2:Int):=of_decide_eq_true asm
      have q42:(x7_2:Int)<(((rd_LI x5_2 x6_1).length:Int):Int):=of_decide_eq_true asm
      obtain ⟨go42,co42,eo42,gb42,gl42,cl42,HG42⟩:=Kd.R_form HL121_0.out (by omega)
      (first|cases eo42|(injection eo42 with ea_ en_ ec_;(first|subst ea_|(injection ea_ with ea_;subst ea_));subst ec_;clear en_))
      have GB42:=Aside0.mk gb42
      have GG42:=Aside0.mk HG42
      clear gb42 gl42 HG42
      (first|simp only [add_plain] at hx125_0|skip)
      obtain ⟨hx42_0,hf42_0⟩:=Kd.R_celln 0 HL121_0.out (x7_2:Int) p42 q42
      replace p42:=eq_true p42
      replace q42:=eq_true q42
      have hq58:(x6_1:Int)<(x5_2.length:Int):=(by have h_:(x6_1:Int)<((x5_2.length:Int):Int):=of_decide_eq_true asm;first|exact h_|(have e_:=(Kd.S_reads' HO_5.out).1;omega)|simpa only [List.length_set,List.length_set] using h_)
      obtain ⟨oki58,ce58,hcl58,hM58,hcc58,hok58,hbk58⟩:=Kd.S_borrow HO_5.out [] (x6_1:Int) (of_decide_eq_true asm) hq58
      obtain ⟨ve58_0,rfl,ge58_0⟩:=hM58
      have hv58:=hcc58 0 _ rfl
      rw [Nat.add_zero,show ((Kd.slice 3 (Kd.int .i64))).sz=1 from rfl,Nat.mul_one] at hv58
      replace hv58:=Option.some.inj (hv58.symm.trans HX121_0.out)
      subst hv58
      clear hcc58 hcl58
      replace ge58_0:=(show Kd.R (Kd.int .i64) 3 _ _ _ _ (rd_LI x5_2 x6_1) from ge58_0)
      have HP58:=Kd.R_putg ge58_0 (x7_2:Int) ji40
      rw [← Ny126.out] at HP58
      have HS58:=hbk58 HP58.2 (fun k_ e_=>by injection e_ with e_;subst e_;exact ge58_0.1 _ rfl) (x':=y126) (Kd.M_row HP58.1)
      rw [← Ny128.out] at HS58
      have HQ58:=Aside0.mk HS58
      clear HP58 HS58 hbk58 hok58
      refine start_ (n:=24) (S:=fun w'=>w'.cell? ⟨go11,(x6_1).toNat,none⟩=some (.slice (some ⟨go42,0,none⟩) (rd_LI x5_2 x6_1).length c121_0)∧w'.cell? ⟨go11,((ji32)).toNat,none⟩=some (.slice (some ad123) (rd_LI x5_2 (ji32)).length c122_0)∧w'.cell? (ad123.add (x7_2).toNat)=some (.int .i64 (rd (rd_LI x5_2 (ji32)) x7_2))∧w'.cell? ⟨go11,(x6_1).toNat,none⟩=some (.slice (some ⟨go42,0,none⟩) (rd_LI x5_2 x6_1).length c121_0)∧w'.cell? ⟨go42,((ji37)).toNat,none⟩=some (.int .i64 (rd (rd_LI x5_2 x6_1) (ji37)))) (ds:=[23]) #[false,false,false,false,false,false,false,false,false,false,false,false,false,false,false,false,false,false,false,false,false,false,false,false] (by kernel_rfl) rfl rfl ⟨hx121_0,hx122_0,hx123_0,hx124_0,hx125_0⟩ (fun hHeld=>?_);refine with_tabW diff_table.tab10 diff_table.bits10 (fun HT_ HW_=>?_)
      generalize wr.drew=w57 at HO_5 HB GG42 HL121_0 HL122_0 HL124_0 HQ58 HR121_0 HR122_0 HR124_0 HX121_0 HX122_0 HX124_0 hf42_0 hx121_0 hx122_0 hx123_0 hx124_0 hx125_0 hx42_0 hHeld ⊢
      refine pure_ (i:=0) (N:=some 41) (v:=?_) (a':=?_) #[true,false,false,false,false,false,false,false,false,false,false,false,false,false,false,false,false,false,false,false,false,false,false,false] rfl rfl (any_of HT_.out (by kernel_rfl)) (fun _ _ _ h=>h) (Or.inl ⟨by rfl,?_⟩) ?_ ?_
      rotate_left
      ·intro w'
       go_simp
       with_reducible rfl
      rotate_left
      ·simp only [Act.put,List.setIfInBounds_toArray,List.set_cons_zero,List.set_cons_succ,i64_w,i32_w]
       rfl
      refine pure_ (i:=1) (N:=some 42) (v:=?_) (a':=?_) #[true,true,false,false,false,false,false,false,false,false,false,false,false,false,false,false,false,false,false,false,false,false,false,false] rfl rfl (any_of HT_.out (by kernel_rfl)) (fun _ _ _ h=>h) (Or.inl ⟨by rfl,?_⟩) ?_ ?_
      rotate_left
      ·intro w'
       go_simp
       with_reducible rfl
      rotate_left
      ·simp only [Act.put,List.setIfInBounds_toArray,List.set_cons_zero,List.set_cons_succ,i64_w,i32_w]
       rfl
      refine pure_ (i:=2) (N:=some 43) (v:=?_) (a':=?_) #[true,true,true,false,false,false,false,false,false,false,false,false,false,false,false,false,false,false,false,false,false,false,false,false] rfl rfl (any_of HT_.out (by kernel_rfl)) (fun _ _ _ h=>h) (Or.inl ⟨by rfl,?_⟩) ?_ ?_
      rotate_left
      ·intro w'
       go_simp
       with_reducible rfl
      rotate_left
      ·simp only [Act.put,List.setIfInBounds_toArray,List.set_cons_zero,List.set_cons_succ,i64_w,i32_w]
       rfl
      refine pure_ (i:=4) (N:=some 45) (v:=?_) (a':=?_) #[true,true,true,false,true,false,false,false,false,false,false,false,false,false,false,false,false,false,false,false,false,false,false,false] rfl rfl (any_of HT_.out (by kernel_rfl)) (fun _ _ _ h=>h) (Or.inl ⟨by rfl,?_⟩) ?_ ?_
      rotate_left
      ·intro w'
       go_simp
       with_reducible rfl
      rotate_left
      ·simp only [Act.put,List.setIfInBounds_toArray,List.set_cons_zero,List.set_cons_succ,i64_w,i32_w]
       rfl
      refine pure_ (i:=5) (N:=some 46) (v:=?_) (a':=?_) #[true,true,true,false,true,true,false,false,false,false,false,false,false,false,false,false,false,false,false,false,false,false,false,false] rfl rfl (any_of HT_.out (by kernel_rfl)) (fun _ _ _ h=>h) (Or.inl ⟨by rfl,?_⟩) ?_ ?_
      rotate_left
      ·intro w'
       go_simp
       with_reducible rfl
      rotate_left
      ·simp only [Act.put,List.setIfInBounds_toArray,List.set_cons_zero,List.set_cons_succ,i64_w,i32_w]
       rfl
      refine pure_ (i:=6) (N:=some 47) (v:=?_) (a':=?_) #[true,true,true,false,true,true,true,false,false,false,false,false,false,false,false,false,false,false,false,false,false,false,false,false] rfl rfl (any_of HT_.out (by kernel_rfl)) (fun _ _ _ h=>h) (Or.inl ⟨by rfl,?_⟩) ?_ ?_
      rotate_left
      ·intro w'
       go_simp
       with_reducible rfl
      rotate_left
      ·simp only [Act.put,List.setIfInBounds_toArray,List.set_cons_zero,List.set_cons_succ,i64_w,i32_w]
       rfl
      refine pure_ (i:=7) (N:=some 48) (v:=?_) (a':=?_) #[true,true,true,false,true,true,true,true,false,false,false,false,false,false,false,false,false,false,false,false,false,false,false,false] rfl rfl (any_of HT_.out (by kernel_rfl)) (fun _ _ _ h=>h) (Or.inl ⟨by rfl,?_⟩) ?_ ?_
      rotate_left
      ·intro w'
       go_simp
       with_reducible rfl
      rotate_left
      ·simp only [Act.put,List.setIfInBounds_toArray,List.set_cons_zero,List.set_cons_succ,i64_w,i32_w]
       rfl
      refine pure_ (i:=8) (N:=some 49) (v:=?_) (a':=?_) #[true,true,true,false,true,true,true,true,true,false,false,false,false,false,false,false,false,false,false,false,false,false,false,false] rfl rfl (any_of HT_.out (by kernel_rfl)) (fun _ _ _ h=>h) (Or.inl ⟨by rfl,?_⟩) ?_ ?_
      rotate_left
      ·intro w'
       go_simp
       with_reducible rfl
      rotate_left
      ·simp only [Act.put,List.setIfInBounds_toArray,List.set_cons_zero,List.set_cons_succ,i64_w,i32_w]
       rfl
      refine pure_ (i:=10) (N:=some 51) (v:=?_) (a':=?_) #[true,true,true,false,true,true,true,true,true,false,true,false,false,false,false,false,false,false,false,false,false,false,false,false] rfl rfl (any_of HT_.out (by kernel_rfl)) (fun _ _ _ h=>h) (Or.inl ⟨by rfl,?_⟩) ?_ ?_
      rotate_left
      ·intro w'
       go_simp
       with_reducible rfl
      rotate_left
      ·simp only [Act.put,List.setIfInBounds_toArray,List.set_cons_zero,List.set_cons_succ,i64_w,i32_w]
       rfl
      refine pure_ (i:=13) (N:=some 54) (v:=?_) (a':=?_) #[true,true,true,false,true,true,true,true,true,false,true,false,false,true,false,false,false,false,false,false,false,false,false,false] rfl rfl (any_of HT_.out (by kernel_rfl)) (fun _ _ _ h=>h) (Or.inl ⟨by rfl,?_⟩) ?_ ?_
      rotate_left
      ·intro w'
       go_simp
       with_reducible rfl
      rotate_left
      ·simp only [Act.put,List.setIfInBounds_toArray,List.set_cons_zero,List.set_cons_succ,i64_w,i32_w]
       rfl
      refine pure_ (i:=14) (N:=some 55) (v:=?_) (a':=?_) #[true,true,true,false,true,true,true,true,true,false,true,false,false,true,true,false,false,false,false,false,false,false,false,false] rfl rfl (any_of HT_.out (by kernel_rfl)) (fun _ _ _ h=>h) (Or.inl ⟨by rfl,?_⟩) ?_ ?_
      rotate_left
      ·intro w'
       go_simp
       with_reducible rfl
      rotate_left
      ·simp only [Act.put,List.setIfInBounds_toArray,List.set_cons_zero,List.set_cons_succ,i64_w,i32_w]
       rfl
      refine pure_ (i:=15) (N:=some 56) (v:=?_) (a':=?_) #[true,true,true,false,true,true,true,true,true,false,true,false,false,true,true,true,false,false,false,false,false,false,false,false] rfl rfl (any_of HT_.out (by kernel_rfl)) (fun _ _ _ h=>h) (Or.inl ⟨by rfl,?_⟩) ?_ ?_
      rotate_left
      ·intro w'
       go_simp
       with_reducible rfl
      rotate_left
      ·simp only [Act.put,List.setIfInBounds_toArray,List.set_cons_zero,List.set_cons_succ,i64_w,i32_w]
       rfl
      refine pure_ (i:=17) (N:=some 58) (v:=?_) (a':=?_) #[true,true,true,false,true,true,true,true,true,false,true,false,false,true,true,true,false,true,false,false,false,false,false,false] rfl rfl (any_of HT_.out (by kernel_rfl)) (fun _ _ _ h=>h) (Or.inl ⟨by rfl,?_⟩) ?_ ?_
      rotate_left
      ·intro w'
       go_simp
       with_reducible rfl
      rotate_left
      ·simp only [Act.put,List.setIfInBounds_toArray,List.set_cons_zero,List.set_cons_succ,i64_w,i32_w]
       rfl
      refine pure_ (i:=18) (N:=some 59) (v:=?_) (a':=?_) #[true,true,true,false,true,true,true,true,true,false,true,false,false,true,true,true,false,true,true,false,false,false,false,false] rfl rfl (any_of HT_.out (by kernel_rfl)) (fun _ _ _ h=>h) (Or.inl ⟨by rfl,?_⟩) ?_ ?_
      rotate_left
      ·intro w'
       go_simp
       with_reducible rfl
      rotate_left
      ·simp only [Act.put,List.setIfInBounds_toArray,List.set_cons_zero,List.set_cons_succ,i64_w,i32_w]
       rfl
      refine take_ (i:=3) (N:=some 44) (v:=?_) (a':=?_) #[true,true,true,true,true,true,true,true,true,false,true,false,false,true,true,true,false,true,true,false,false,false,false,false] rfl rfl (take_ofW HT_.out HW_.out (by kernel_rfl)) (fun _ _ _ h=>h) (Or.inl ⟨by rfl,?_⟩) hHeld ?_ ?_
      rotate_left
      ·rintro w' ⟨s0,s1,s2,s3,s4⟩
       go_simp
       with_reducible rfl
      rotate_left
      ·simp only [Act.put,List.setIfInBounds_toArray,List.set_cons_zero,List.set_cons_succ,i64_w,i32_w]
       rfl
      refine take_ (i:=9) (N:=some 50) (v:=?_) (a':=?_) #[true,true,true,true,true,true,true,true,true,true,true,false,false,true,true,true,false,true,true,false,false,false,false,false] rfl rfl (take_ofW HT_.out HW_.out (by kernel_rfl)) (fun _ _ _ h=>h) (Or.inl ⟨by rfl,?_⟩) hHeld ?_ ?_
      rotate_left
      ·rintro w' ⟨s0,s1,s2,s3,s4⟩
       go_simp
       with_reducible rfl
      rotate_left
      ·simp only [Act.put,List.setIfInBounds_toArray,List.set_cons_zero,List.set_cons_succ,i64_w,i32_w]
       rfl
      refine pure_ (i:=11) (N:=some 52) (v:=?_) (a':=?_) #[true,true,true,true,true,true,true,true,true,true,true,true,false,true,true,true,false,true,true,false,false,false,false,false] rfl rfl (any_of HT_.out (by kernel_rfl)) (fun _ _ _ h=>h) (Or.inl ⟨by rfl,?_⟩) ?_ ?_
      rotate_left
      ·intro w'
       go_simp
       with_reducible rfl
      rotate_left
      ·simp only [Act.put,List.setIfInBounds_toArray,List.set_cons_zero,List.set_cons_succ,i64_w,i32_w]
       rfl
      refine take_ (i:=12) (N:=some 53) (v:=?_) (a':=?_) #[true,true,true,true,true,true,true,true,true,true,true,true,true,true,true,true,false,true,true,false,false,false,false,false] rfl rfl (take_ofW HT_.out HW_.out (by kernel_rfl)) (fun _ _ _ h=>h) (Or.inl ⟨by rfl,?_⟩) hHeld ?_ ?_
      rotate_left
      ·rintro w' ⟨s0,s1,s2,s3,s4⟩
       go_simp
       with_reducible rfl
      rotate_left
      ·simp only [Act.put,List.setIfInBounds_toArray,List.set_cons_zero,List.set_cons_succ,i64_w,i32_w]
       rfl
      refine take_ (i:=16) (N:=some 57) (v:=?_) (a':=?_) #[true,true,true,true,true,true,true,true,true,true,true,true,true,true,true,true,true,true,true,false,false,false,false,false] rfl rfl (take_ofW HT_.out HW_.out (by kernel_rfl)) (fun _ _ _ h=>h) (Or.inl ⟨by rfl,?_⟩) hHeld ?_ ?_
      rotate_left
      ·rintro w' ⟨s0,s1,s2,s3,s4⟩
       go_simp
       with_reducible rfl
      rotate_left
      ·simp only [Act.put,List.setIfInBounds_toArray,List.set_cons_zero,List.set_cons_succ,i64_w,i32_w]
       rfl
      refine pure_ (i:=19) (N:=some 60) (v:=?_) (a':=?_) #[true,true,true,true,true,true,true,true,true,true,true,true,true,true,true,true,true,true,true,true,false,false,false,false] rfl rfl (any_of HT_.out (by kernel_rfl)) (fun _ _ _ h=>h) (Or.inl ⟨by rfl,?_⟩) ?_ ?_
      rotate_left
      ·intro w'
       go_simp
       with_reducible rfl
      rotate_left
      ·simp only [Act.put,List.setIfInBounds_toArray,List.set_cons_zero,List.set_cons_succ,i64_w,i32_w]
       rfl
      refine take_ (i:=20) (N:=some 61) (v:=?_) (a':=?_) #[true,true,true,true,true,true,true,true,true,true,true,true,true,true,true,true,true,true,true,true,true,false,false,false] rfl rfl (take_ofW HT_.out HW_.out (by kernel_rfl)) (fun _ _ _ h=>h) (Or.inl ⟨by rfl,?_⟩) hHeld ?_ ?_
      rotate_left
      ·rintro w' ⟨s0,s1,s2,s3,s4⟩
       go_simp
       with_reducible rfl
      rotate_left
      ·simp only [Act.put,List.setIfInBounds_toArray,List.set_cons_zero,List.set_cons_succ,i64_w,i32_w]
       rfl
      refine pure_ (i:=21) (N:=some 62) (v:=?_) (a':=?_) #[true,true,true,true,true,true,true,true,true,true,true,true,true,true,true,true,true,true,true,true,true,true,false,false] rfl rfl (any_of HT_.out (by kernel_rfl)) (fun _ _ _ h=>h) (Or.inl ⟨by rfl,?_⟩) ?_ ?_
      rotate_left
      ·intro w'
       go_simp
       with_reducible rfl
      rotate_left
      ·simp only [Act.put,List.setIfInBounds_toArray,List.set_cons_zero,List.set_cons_succ,i64_w,i32_w]
       rfl
      refine pure_ (i:=22) (N:=some 63) (v:=?_) (a':=?_) #[true,true,true,true,true,true,true,true,true,true,true,true,true,true,true,true,true,true,true,true,true,true,true,false] rfl rfl (any_of HT_.out (by kernel_rfl)) (fun _ _ _ h=>h) (Or.inl ⟨by rfl,?_⟩) ?_ ?_
      rotate_left
      ·intro w'
       go_simp
       with_reducible rfl
      rotate_left
      ·simp only [Act.put,List.setIfInBounds_toArray,List.set_cons_zero,List.set_cons_succ,i64_w,i32_w]
       rfl
      refine last_ (i:=23) (N:=none) #[true,true,true,true,true,true,true,true,true,true,true,true,true,true,true,true,true,true,true,true,true,true,true,true] rfl rfl (one_of HT_.out (by kernel_rfl)) (by decide) (fun K hK=>?_)
      refine skip_ (w1:=?_) (by rfl) rfl ?_ ?_
      rotate_left
      ·go_simp
       rfl
      refine hK.out _ _ ?_
      clear hK K
      refine done_ (done_of HT_.out (by kernel_rfl)) ?_
      try go_wp2
      have n0_:Aside0 (Kd.S (Kd.slice 3 (Kd.int .i64)) 49 (w57.setCell ⟨go42,(x7_2:Int).toNat,none⟩ (.int .i64 ji40)) w.heap.size (fun _=>True) (.slice (some ⟨go11,0,none⟩) x5_2.length co11) y128):=⟨by (with_reducible repeat (first|apply Kd.S_alloc|apply Kd.S_drewN|apply Kd.S_drew));exact HQ58.out⟩
      have n1_:Aside0 (Below w.heap.size w (w57.setCell ⟨go42,(x7_2:Int).toNat,none⟩ (.int .i64 ji40))):=⟨by repeat (first|(with_reducible first|exact HB.out|apply below_alloc|apply pw_below_drewN|apply below_drew1|refine below_set ?_ GB42.out)|exact HB.out)⟩
      (try clear HO_5)
      (try clear HB)
      generalize (w57.setCell ⟨go42,(x7_2:Int).toNat,none⟩ (.int .i64 ji40))=w60 at n0_ n1_ ⊢
      have HO_5:=n0_
      have HB:=n1_
      clear n0_ n1_
      have n0_:=Aside0.mk (Kd.S_drew HO_5.out)
      have n1_:=Aside0.mk (below_drew1 HB.out)
      clear HO_5
      clear HB
      have HO_5:=n0_
      have HB:=n1_
      clear n0_ n1_
      have p129:0≤(x6_1:Int):=of_decide_eq_true asm
      have q129:x6_1<(l0.length:Int):=of_decide_eq_true asm
      obtain ⟨ad129,e129,hx129_0⟩:=Kd.at_string HR0.out x6_1 p129 q129
      have hw129_0:=hx129_0
      cases e129
      replace hx129_0:=pw_cell_below HB.out hx129_0
      replace p129:=eq_true p129
      replace q129:=eq_true q129
      have p130:0≤(x7_2:Int):=of_decide_eq_true asm
      have q130:x7_2<(l1.length:Int):=of_decide_eq_true asm
      obtain ⟨ad130,e130,hx130_0⟩:=Kd.at_string HR1.out x7_2 p130 q130
      have hw130_0:=hx130_0
      cases e130
      replace hx130_0:=pw_cell_below HB.out hx130_0
      replace p130:=eq_true p130
      replace q130:=eq_true q130
      refine start_ (n:=9) (S:=fun w'=>w'.cell? (ad129.add (x6_1).toNat)=some (.string (rdOf ByteArray.empty l0 x6_1))∧w'.cell? (ad130.add (x7_2).toNat)=some (.string (rdOf ByteArray.empty l1 x7_2))) (ds:=[]) #[false,false,false,false,false,false,false,false,false] (by kernel_rfl) rfl rfl ⟨((HB.out.cell (World.block_lt_of_cell? w _ hw129_0)).trans hw129_0),((HB.out.cell (World.block_lt_of_cell? w _ hw130_0)).trans hw130_0)⟩ (fun hHeld=>?_);refine with_tabW diff_table.tab11 diff_table.bits11 (fun HT_ HW_=>?_)
      generalize w60.drew=w61 at HO_5 HB HQ58 hx129_0 hx130_0 hHeld ⊢
      refine pure_ (i:=0) (N:=some 64) (v:=?_) (a':=?_) #[true,false,false,false,false,false,false,false,false] rfl rfl (any_of HT_.out (by kernel_rfl)) (fun _ _ _ h=>h) (Or.inl ⟨by rfl,?_⟩) ?_ ?_
      rotate_left
      ·intro w'
       go_simp
       with_reducible rfl
      rotate_left
      ·simp only [Act.put,List.setIfInBounds_toArray,List.set_cons_zero,List.set_cons_succ,i64_w,i32_w]
       rfl
      refine pure_ (i:=1) (N:=some 65) (v:=?_) (a':=?_) #[true,true,false,false,false,false,false,false,false] rfl rfl (any_of HT_.out (by kernel_rfl)) (fun _ _ _ h=>h) (Or.inl ⟨by rfl,?_⟩) ?_ ?_
      rotate_left
      ·intro w'
       go_simp
       with_reducible rfl
      rotate_left
      ·simp only [Act.put,List.setIfInBounds_toArray,List.set_cons_zero,List.set_cons_succ,i64_w,i32_w]
       rfl
      refine pure_ (i:=2) (N:=some 66) (v:=?_) (a':=?_) #[true,true,true,false,false,false,false,false,false] rfl rfl (any_of HT_.out (by kernel_rfl)) (fun _ _ _ h=>h) (Or.inl ⟨by rfl,?_⟩) ?_ ?_
      rotate_left
      ·intro w'
       go_simp
       with_reducible rfl
      rotate_left
      ·simp only [Act.put,List.setIfInBounds_toArray,List.set_cons_zero,List.set_cons_succ,i64_w,i32_w]
       rfl
      refine pure_ (i:=4) (N:=some 68) (v:=?_) (a':=?_) #[true,true,true,false,true,false,false,false,false] rfl rfl (any_of HT_.out (by kernel_rfl)) (fun _ _ _ h=>h) (Or.inl ⟨by rfl,?_⟩) ?_ ?_
      rotate_left
      ·intro w'
       go_simp
       with_reducible rfl
      rotate_left
      ·simp only [Act.put,List.setIfInBounds_toArray,List.set_cons_zero,List.set_cons_succ,i64_w,i32_w]
       rfl
      refine pure_ (i:=5) (N:=some 69) (v:=?_) (a':=?_) #[true,true,true,false,true,true,false,false,false] rfl rfl (any_of HT_.out (by kernel_rfl)) (fun _ _ _ h=>h) (Or.inl ⟨by rfl,?_⟩) ?_ ?_
      rotate_left
      ·intro w'
       go_simp
       with_reducible rfl
      rotate_left
      ·simp only [Act.put,List.setIfInBounds_toArray,List.set_cons_zero,List.set_cons_succ,i64_w,i32_w]
       rfl
      refine pure_ (i:=6) (N:=some 70) (v:=?_) (a':=?_) #[true,true,true,false,true,true,true,false,false] rfl rfl (any_of HT_.out (by kernel_rfl)) (fun _ _ _ h=>h) (Or.inl ⟨by rfl,?_⟩) ?_ ?_
      rotate_left
      ·intro w'
       go_simp
       with_reducible rfl
      rotate_left
      ·simp only [Act.put,List.setIfInBounds_toArray,List.set_cons_zero,List.set_cons_succ,i64_w,i32_w]
       rfl
      refine take_ (i:=3) (N:=some 67) (v:=?_) (a':=?_) #[true,true,true,true,true,true,true,false,false] rfl rfl (take_ofW HT_.out HW_.out (by kernel_rfl)) (fun _ _ _ h=>h) (Or.inl ⟨by rfl,?_⟩) hHeld ?_ ?_
      rotate_left
      ·rintro w' ⟨s0,s1⟩
       go_simp
       with_reducible rfl
      rotate_left
      ·simp only [Act.put,List.setIfInBounds_toArray,List.set_cons_zero,List.set_cons_succ,i64_w,i32_w]
       rfl
      refine take_ (i:=7) (N:=some 71) (v:=?_) (a':=?_) #[true,true,true,true,true,true,true,true,false] rfl rfl (take_ofW HT_.out HW_.out (by kernel_rfl)) (fun _ _ _ h=>h) (Or.inl ⟨by rfl,?_⟩) hHeld ?_ ?_
      rotate_left
      ·rintro w' ⟨s0,s1⟩
       go_simp
       with_reducible rfl
      rotate_left
      ·simp only [Act.put,List.setIfInBounds_toArray,List.set_cons_zero,List.set_cons_succ,i64_w,i32_w]
       rfl
      refine pure_ (i:=8) (N:=some 72) (v:=?_) (a':=?_) #[true,true,true,true,true,true,true,true,true] rfl rfl (any_of HT_.out (by kernel_rfl)) (fun _ _ _ h=>h) (Or.inl ⟨by rfl,?_⟩) ?_ ?_
      rotate_left
      ·intro w'
       go_simp
       with_reducible rfl
      rotate_left
      ·simp only [Act.put,List.setIfInBounds_toArray,List.set_cons_zero,List.set_cons_succ,i64_w,i32_w]
       rfl
      refine done_ (done_of HT_.out (by kernel_rfl)) ?_
      try go_wp2
      (try simp only [← hl5_2])
      go_roundg k2
      case measure=>have:=HK1.out;have:=HK2.out;omega
      case rel=>exact ⟨(y128),(wrap64 (x7_2 - 1)),rx,H',⟨by have:=HK1.out;have:=HK2.out;omega⟩,⟨by (try simp only [hl5_1]);(try simp only [hl5_2]);(with_reducible repeat (first|apply Kd.S_alloc|apply Kd.S_drewN|apply Kd.S_drew));exact HO_5.out⟩,⟨by repeat (first|(with_reducible first|exact HB.out|apply below_alloc|apply pw_below_drewN|apply below_drew1)|exact HB.out)⟩⟩
     rw [if_pos c45] at H
     have c45b0:((rdOf ByteArray.empty l0 x6_1).toList == (rdOf ByteArray.empty l1 x7_2).toList)=true:=beq_iff_eq.mpr c45
     have c45b1:((rdOf ByteArray.empty l0 x6_1).toList != (rdOf ByteArray.empty l1 x7_2).toList)=false:=bne_eq_false_iff_eq.mpr c45
     clear c45
     by_cases c46:(ji37)<((rd_LI y128 (ji32)).length:Int)
     rotate_left
     ·rw [if_neg c46] at H
      exact absurd H (by simp)
     rw [if_pos c46] at H
     have c46b0:decide ((ji37)<((rd_LI y128 (ji32)).length:Int))=true:=decide_eq_true c46
     clear c46
     by_cases c47:x7_2<((rd_LI y128 x6_1).length:Int)
     rotate_left
     ·rw [if_neg c47] at H
      exact absurd H (by simp)
     rw [if_pos c47] at H
     have c47b0:decide (x7_2<((rd_LI y128 x6_1).length:Int))=true:=decide_eq_true c47
     clear c47
     obtain ⟨y134,hy134⟩:∃ y_:List Int,y_=((rd_LI y128 x6_1).set (x7_2:Int).toNat (wrap64 ((rd (rd_LI y128 (ji32)) (ji37))+1))):=⟨_,rfl⟩
     replace H:(diff_table.l1 k2 l0 l1 (y128.set (x6_1:Int).toNat y134) x6_1 (wrap64 (x7_2 - 1)))=some r:=by first|(rw [hy134];with_reducible exact H)|(have H2_:=(Option.bind_some _ _).symm.trans H;rw [hy134];with_reducible exact H2_)|(have H2_:=(Option.bind_some _ _).symm.trans H;with_reducible exact H2_)|with_reducible exact H|(rw [hy134];exact H)|exact H
     have Ny134:=Aside0.mk hy134
     clear hy134
     obtain ⟨y136,hy136⟩:∃ y_:List (List Int),y_=(y128.set (x6_1:Int).toNat y134):=⟨_,rfl⟩
     replace H:(diff_table.l1 k2 l0 l1 y136 x6_1 (wrap64 (x7_2 - 1)))=some r:=by first|(rw [hy136];with_reducible exact H)|(have H2_:=(Option.bind_some _ _).symm.trans H;rw [hy136];with_reducible exact H2_)|(have H2_:=(Option.bind_some _ _).symm.trans H;with_reducible exact H2_)|with_reducible exact H|(rw [hy136];exact H)|exact H
     have Ny136:=Aside0.mk hy136
     clear hy136
     have H':=Aside0.mk H
     clear H
     try go_wp2
     have n0_:=Aside0.mk (Kd.S_drew HO_5.out)
     have n1_:=Aside0.mk (below_drew1 HB.out)
     clear HO_5
     clear HB
     have HO_5:=n0_
     have HB:=n1_
     clear n0_ n1_
     have p121:0≤(x6_1:Int):=of_decide_eq_true asm
     have q121:x6_1<(x5_2.length:Int):=of_decide_eq_true asm
     obtain ⟨ad121,A121_0,c121_0,e121,hx121_0,hl121_0,hi121_0⟩:=at_LI (Kd.S_reads' HO_5.out).2.2 x6_1 p121 q121
     obtain rfl:(⟨go11,0,none⟩:Addr)=ad121:=(by injection e121)
     obtain ⟨ce121,hce121,hMe121,hcc121⟩:=Kd.S_get HO_5.out [] x6_1 p121 (by first|exact q121|exact of_decide_eq_true asm|(have e_:=(Kd.S_reads' HO_5.out).1;omega))
     obtain ⟨ve121_0,rfl,ge121_0⟩:=hMe121
     have hv121_0:=hcc121 0 _ rfl
     rw [Nat.add_zero,show ((Kd.slice 3 (Kd.int .i64))).sz=1 from rfl,Nat.mul_one] at hv121_0
     replace hv121_0:=Option.some.inj (hv121_0.symm.trans hx121_0)
     rw [hv121_0] at ge121_0
     have HL121_0:=Aside0.mk (show Kd.R (Kd.int .i64) 3 _ _ _ _ (rd_LI x5_2 x6_1) from ge121_0)
     clear hv121_0 ge121_0
     have HX121_0:=Aside0.mk hx121_0
     clear hcc121 hce121
     (first|simp only [add_plain] at hx121_0|simp only [add_at] at hx121_0|simp only [Addr.add,Nat.zero_add] at hx121_0|skip)
     have HR121_0:=Aside0.mk hi121_0
     have HC121_0:=Aside0.mk hl121_0
     clear hi121_0 hl121_0
     replace p121:=eq_true p121
     replace q121:=eq_true q121
     have p122:0≤((ji32):Int):=of_decide_eq_true asm
     have q122:(ji32)<(x5_2.length:Int):=of_decide_eq_true asm
     obtain ⟨ad122,A122_0,c122_0,e122,hx122_0,hl122_0,hi122_0⟩:=at_LI (Kd.S_reads' HO_5.out).2.2 (ji32) p122 q122
     obtain rfl:(⟨go11,0,none⟩:Addr)=ad122:=(by injection e122)
     obtain ⟨ce122,hce122,hMe122,hcc122⟩:=Kd.S_get HO_5.out [] (ji32) p122 (by first|exact q122|exact of_decide_eq_true asm|(have e_:=(Kd.S_reads' HO_5.out).1;omega))
     obtain ⟨ve122_0,rfl,ge122_0⟩:=hMe122
     have hv122_0:=hcc122 0 _ rfl
     rw [Nat.add_zero,show ((Kd.slice 3 (Kd.int .i64))).sz=1 from rfl,Nat.mul_one] at hv122_0
     replace hv122_0:=Option.some.inj (hv122_0.symm.trans hx122_0)
     rw [hv122_0] at ge122_0
     have HL122_0:=Aside0.mk (show Kd.R (Kd.int .i64) 3 _ _ _ _ (rd_LI x5_2 (ji32)) from ge122_0)
     clear hv122_0 ge122_0
     have HX122_0:=Aside0.mk hx122_0
     clear hcc122 hce122
     (first|simp only [add_plain] at hx122_0|simp only [add_at] at hx122_0|simp only [Addr.add,Nat.zero_add] at hx122_0|skip)
     have HR122_0:=Aside0.mk hi122_0
     have HC122_0:=Aside0.mk hl122_0
     clear hi122_0 hl122_0
     replace p122:=eq_true p122
     replace q122:=eq_true q122
     have p123:0≤(x7_2:Int):=of_decide_eq_true asm
     have q123:x7_2<((rd_LI x5_2 (ji32)).length:Int):=of_decide_eq_true asm
     obtain ⟨ad123,e123,hx123_0⟩:=Kd.at_int (by repeat (first|(with_reducible exact HR122_0.out)|(with_reducible refine Kd.C_alloc ?_ _)|(with_reducible refine Kd.C_drewN ?_ _)|(with_reducible refine Kd.C_drew ?_)|exact HR122_0.out)) x7_2 p123 q123
     cases e123
     replace p123:=eq_true p123
     replace q123:=eq_true q123
     have p124:0≤(x6_1:Int):=of_decide_eq_true asm
     have q124:x6_1<(x5_2.length:Int):=of_decide_eq_true asm
     obtain ⟨ad124,A124_0,c124_0,e124,hx124_0,hl124_0,hi124_0⟩:=at_LI (Kd.S_reads' HO_5.out).2.2 x6_1 p124 q124
     obtain rfl:(⟨go11,0,none⟩:Addr)=ad124:=(by injection e124)
     obtain ⟨ce124,hce124,hMe124,hcc124⟩:=Kd.S_get HO_5.out [] x6_1 p124 (by first|exact q124|exact of_decide_eq_true asm|(have e_:=(Kd.S_reads' HO_5.out).1;omega))
     obtain ⟨ve124_0,rfl,ge124_0⟩:=hMe124
     have hv124_0:=hcc124 0 _ rfl
     rw [Nat.add_zero,show ((Kd.slice 3 (Kd.int .i64))).sz=1 from rfl,Nat.mul_one] at hv124_0
     replace hv124_0:=Option.some.inj (hv124_0.symm.trans hx124_0)
     rw [hv124_0] at ge124_0
     have HL124_0:=Aside0.mk (show Kd.R (Kd.int .i64) 3 _ _ _ _ (rd_LI x5_2 x6_1) from ge124_0)
     clear hv124_0 ge124_0
     have HX124_0:=Aside0.mk hx124_0
     clear hcc124 hce124
     (first|simp only [add_plain] at hx124_0|simp only [add_at] at hx124_0|simp only [Addr.add,Nat.zero_add] at hx124_0|skip)
     have HR124_0:=Aside0.mk hi124_0
     have HC124_0:=Aside0.mk hl124_0
     clear hi124_0 hl124_0
     replace p124:=eq_true p124
     replace q124:=eq_true q124
     have ea_:=Option.some.inj (hx121_0.symm.trans hx124_0)
     injection ea_ with ea_ en_ ec_
     subst ea_
     subst ec_
     clear en_
     have p125:0≤((ji37):Int):=of_decide_eq_true asm
     have q125:(ji37)<((rd_LI x5_2 x6_1).length:Int):=of_decide_eq_true asm
     obtain ⟨ad125,e125,hx125_0⟩:=Kd.at_int (by repeat (first|(with_reducible exact HR124_0.out)|(with_reducible refine Kd.C_alloc ?_ _)|(with_reducible refine Kd.C_drewN ?_ _)|(with_reducible refine Kd.C_drew ?_)|exact HR124_0.out)) (ji37) p125 q125
     cases e125
     replace p125:=eq_true p125
     replace q125:=eq_true q125
     have p42:0≤(x7_2:Int):=of_decide_eq_true asm
     have q42:(x7_2:Int)<(((rd_LI x5_2 x6_1).length:Int):Int):=of_decide_eq_true asm
     obtain ⟨go42,co42,eo42,gb42,gl42,cl42,HG42⟩:=Kd.R_form HL121_0.out (by omega)
     (first|cases eo42|(injection eo42 with ea_ en_ ec_;(first|subst ea_|(injection ea_ with ea_;subst ea_));subst ec_;clear en_))
     have GB42:=Aside0.mk gb42
     have GG42:=Aside0.mk HG42
     clear gb42 gl42 HG42
     (first|simp only [add_plain] at hx125_0|skip)
     obtain ⟨hx42_0,hf42_0⟩:=Kd.R_celln 0 HL121_0.out (x7_2:Int) p42 q42
     replace p42:=eq_true p42
     replace q42:=eq_true q42
     have hq50:(x6_1:Int)<(x5_2.length:Int):=(by have h_:(x6_1:Int)<((x5_2.length:Int):Int):=of_decide_eq_true asm;first|exact h_|(have e_:=(Kd.S_reads' HO_5.out).1;omega)|simpa only [List.length_set,List.length_set] using h_)
     obtain ⟨oki50,ce50,hcl50,hM50,hcc50,hok50,hbk50⟩:=Kd.S_borrow HO_5.out [] (x6_1:Int) (of_decide_eq_true asm) hq50
     obtain ⟨ve50_0,rfl,ge50_0⟩:=hM50
     have hv50:=hcc50 0 _ rfl
     rw [Nat.add_zero,show ((Kd.slice 3 (Kd.int .i64))).sz=1 from rfl,Nat.mul_one] at hv50
     replace hv50:=Option.some.inj (hv50.symm.trans HX121_0.out)
     subst hv50
     clear hcc50 hcl50
     replace ge50_0:=(show Kd.R (Kd.int .i64) 3 _ _ _ _ (rd_LI x5_2 x6_1) from ge50_0)
     have HP50:=Kd.R_putg ge50_0 (x7_2:Int) ji40
     rw [← Ny126.out] at HP50
     have HS50:=hbk50 HP50.2 (fun k_ e_=>by injection e_ with e_;subst e_;exact ge50_0.1 _ rfl) (x':=y126) (Kd.M_row HP50.1)
     rw [← Ny128.out] at HS50
     have HQ50:=Aside0.mk HS50
     clear HP50 HS50 hbk50 hok50
     refine start_ (n:=24) (S:=fun w'=>w'.cell? ⟨go11,(x6_1).toNat,none⟩=some (.slice (some ⟨go42,0,none⟩) (rd_LI x5_2 x6_1).length c121_0)∧w'.cell? ⟨go11,((ji32)).toNat,none⟩=some (.slice (some ad123) (rd_LI x5_2 (ji32)).length c122_0)∧w'.cell? (ad123.add (x7_2).toNat)=some (.int .i64 (rd (rd_LI x5_2 (ji32)) x7_2))∧w'.cell? ⟨go11,(x6_1).toNat,none⟩=some (.slice (some ⟨go42,0,none⟩) (rd_LI x5_2 x6_1).length c121_0)∧w'.cell? ⟨go42,((ji37)).toNat,none⟩=some (.int .i64 (rd (rd_LI x5_2 x6_1) (ji37)))) (ds:=[23]) #[false,false,false,false,false,false,false,false,false,false,false,false,false,false,false,false,false,false,false,false,false,false,false,false] (by kernel_rfl) rfl rfl ⟨hx121_0,hx122_0,hx123_0,hx124_0,hx125_0⟩ (fun hHeld=>?_);refine with_tabW diff_table.tab10 diff_table.bits10 (fun HT_ HW_=>?_)
     generalize wr.drew=w49 at HO_5 HB GG42 HL121_0 HL122_0 HL124_0 HQ50 HR121_0 HR122_0 HR124_0 HX121_0 HX122_0 HX124_0 hf42_0 hx121_0 hx122_0 hx123_0 hx124_0 hx125_0 hx42_0 hHeld ⊢
     refine pure_ (i:=0) (N:=some 41) (v:=?_) (a':=?_) #[true,false,false,false,false,false,false,false,false,false,false,false,false,false,false,false,false,false,false,false,false,false,false,false] rfl rfl (any_of HT_.out (by kernel_rfl)) (fun _ _ _ h=>h) (Or.inl ⟨by rfl,?_⟩) ?_ ?_
     rotate_left
     ·intro w'
      go_simp
      with_reducible rfl
     rotate_left
     ·simp only [Act.put,List.setIfInBounds_toArray,List.set_cons_zero,List.set_cons_succ,i64_w,i32_w]
      rfl
     refine pure_ (i:=1) (N:=some 42) (v:=?_) (a':=?_) #[true,true,false,false,false,false,false,false,false,false,false,false,false,false,false,false,false,false,false,false,false,false,false,false] rfl rfl (any_of HT_.out (by kernel_rfl)) (fun _ _ _ h=>h) (Or.inl ⟨by rfl,?_⟩) ?_ ?_
     rotate_left
     ·intro w'
      go_simp
      with_reducible rfl
     rotate_left
     ·simp only [Act.put,List.setIfInBounds_toArray,List.set_cons_zero,List.set_cons_succ,i64_w,i32_w]
      rfl
     refine pure_ (i:=2) (N:=some 43) (v:=?_) (a':=?_) #[true,true,true,false,false,false,false,false,false,false,false,false,false,false,false,false,false,false,false,false,false,false,false,false] rfl rfl (any_of HT_.out (by kernel_rfl)) (fun _ _ _ h=>h) (Or.inl ⟨by rfl,?_⟩) ?_ ?_
     rotate_left
     ·intro w'
      go_simp
      with_reducible rfl
     rotate_left
     ·simp only [Act.put,List.setIfInBounds_toArray,List.set_cons_zero,List.set_cons_succ,i64_w,i32_w]
      rfl
     refine pure_ (i:=4) (N:=some 45) (v:=?_) (a':=?_) #[true,true,true,false,true,false,false,false,false,false,false,false,false,false,false,false,false,false,false,false,false,false,false,false] rfl rfl (any_of HT_.out (by kernel_rfl)) (fun _ _ _ h=>h) (Or.inl ⟨by rfl,?_⟩) ?_ ?_
     rotate_left
     ·intro w'
      go_simp
      with_reducible rfl
     rotate_left
     ·simp only [Act.put,List.setIfInBounds_toArray,List.set_cons_zero,List.set_cons_succ,i64_w,i32_w]
      rfl
     refine pure_ (i:=5) (N:=some 46) (v:=?_) (a':=?_) #[true,true,true,false,true,true,false,false,false,false,false,false,false,false,false,false,false,false,false,false,false,false,false,false] rfl rfl (any_of HT_.out (by kernel_rfl)) (fun _ _ _ h=>h) (Or.inl ⟨by rfl,?_⟩) ?_ ?_
     rotate_left
     ·intro w'
      go_simp
      with_reducible rfl
     rotate_left
     ·simp only [Act.put,List.setIfInBounds_toArray,List.set_cons_zero,List.set_cons_succ,i64_w,i32_w]
      rfl
     refine pure_ (i:=6) (N:=some 47) (v:=?_) (a':=?_) #[true,true,true,false,true,true,true,false,false,false,false,false,false,false,false,false,false,false,false,false,false,false,false,false] rfl rfl (any_of HT_.out (by kernel_rfl)) (fun _ _ _ h=>h) (Or.inl ⟨by rfl,?_⟩) ?_ ?_
     rotate_left
     ·intro w'
      go_simp
      with_reducible rfl
     rotate_left
     ·simp only [Act.put,List.setIfInBounds_toArray,List.set_cons_zero,List.set_cons_succ,i64_w,i32_w]
      rfl
     refine pure_ (i:=7) (N:=some 48) (v:=?_) (a':=?_) #[true,true,true,false,true,true,true,true,false,false,false,false,false,false,false,false,false,false,false,false,false,false,false,false] rfl rfl (any_of HT_.out (by kernel_rfl)) (fun _ _ _ h=>h) (Or.inl ⟨by rfl,?_⟩) ?_ ?_
     rotate_left
     ·intro w'
      go_simp
      with_reducible rfl
     rotate_left
     ·simp only [Act.put,List.setIfInBounds_toArray,List.set_cons_zero,List.set_cons_succ,i64_w,i32_w]
      rfl
     refine pure_ (i:=8) (N:=some 49) (v:=?_) (a':=?_) #[true,true,true,false,true,true,true,true,true,false,false,false,false,false,false,false,false,false,false,false,false,false,false,false] rfl rfl (any_of HT_.out (by kernel_rfl)) (fun _ _ _ h=>h) (Or.inl ⟨by rfl,?_⟩) ?_ ?_
     rotate_left
     ·intro w'
      go_simp
      with_reducible rfl
     rotate_left
     ·simp only [Act.put,List.setIfInBounds_toArray,List.set_cons_zero,List.set_cons_succ,i64_w,i32_w]
      rfl
     refine pure_ (i:=10) (N:=some 51) (v:=?_) (a':=?_) #[true,true,true,false,true,true,true,true,true,false,true,false,false,false,false,false,false,false,false,false,false,false,false,false] rfl rfl (any_of HT_.out (by kernel_rfl)) (fun _ _ _ h=>h) (Or.inl ⟨by rfl,?_⟩) ?_ ?_
     rotate_left
     ·intro w'
      go_simp
      with_reducible rfl
     rotate_left
     ·simp only [Act.put,List.setIfInBounds_toArray,List.set_cons_zero,List.set_cons_succ,i64_w,i32_w]
      rfl
     refine pure_ (i:=13) (N:=some 54) (v:=?_) (a':=?_) #[true,true,true,false,true,true,true,true,true,false,true,false,false,true,false,false,false,false,false,false,false,false,false,false] rfl rfl (any_of HT_.out (by kernel_rfl)) (fun _ _ _ h=>h) (Or.inl ⟨by rfl,?_⟩) ?_ ?_
     rotate_left
     ·intro w'
      go_simp
      with_reducible rfl
     rotate_left
     ·simp only [Act.put,List.setIfInBounds_toArray,List.set_cons_zero,List.set_cons_succ,i64_w,i32_w]
      rfl
     refine pure_ (i:=14) (N:=some 55) (v:=?_) (a':=?_) #[true,true,true,false,true,true,true,true,true,false,true,false,false,true,true,false,false,false,false,false,false,false,false,false] rfl rfl (any_of HT_.out (by kernel_rfl)) (fun _ _ _ h=>h) (Or.inl ⟨by rfl,?_⟩) ?_ ?_
     rotate_left
     ·intro w'
      go_simp
      with_reducible rfl
     rotate_left
     ·simp only [Act.put,List.setIfInBounds_toArray,List.set_cons_zero,List.set_cons_succ,i64_w,i32_w]
      rfl
     refine pure_ (i:=15) (N:=some 56) (v:=?_) (a':=?_) #[true,true,true,false,true,true,true,true,true,false,true,false,false,true,true,true,false,false,false,false,false,false,false,false] rfl rfl (any_of HT_.out (by kernel_rfl)) (fun _ _ _ h=>h) (Or.inl ⟨by rfl,?_⟩) ?_ ?_
     rotate_left
     ·intro w'
      go_simp
      with_reducible rfl
     rotate_left
     ·simp only [Act.put,List.setIfInBounds_toArray,List.set_cons_zero,List.set_cons_succ,i64_w,i32_w]
      rfl
     refine pure_ (i:=17) (N:=some 58) (v:=?_) (a':=?_) #[true,true,true,false,true,true,true,true,true,false,true,false,false,true,true,true,false,true,false,false,false,false,false,false] rfl rfl (any_of HT_.out (by kernel_rfl)) (fun _ _ _ h=>h) (Or.inl ⟨by rfl,?_⟩) ?_ ?_
     rotate_left
     ·intro w'
      go_simp
      with_reducible rfl
     rotate_left
     ·simp only [Act.put,List.setIfInBounds_toArray,List.set_cons_zero,List.set_cons_succ,i64_w,i32_w]
      rfl
     refine pure_ (i:=18) (N:=some 59) (v:=?_) (a':=?_) #[true,true,true,false,true,true,true,true,true,false,true,false,false,true,true,true,false,true,true,false,false,false,false,false] rfl rfl (any_of HT_.out (by kernel_rfl)) (fun _ _ _ h=>h) (Or.inl ⟨by rfl,?_⟩) ?_ ?_
     rotate_left
     ·intro w'
      go_simp
      with_reducible rfl
     rotate_left
     ·simp only [Act.put,List.setIfInBounds_toArray,List.set_cons_zero,List.set_cons_succ,i64_w,i32_w]
      rfl
     refine take_ (i:=3) (N:=some 44) (v:=?_) (a':=?_) #[true,true,true,true,true,true,true,true,true,false,true,false,false,true,true,true,false,true,true,false,false,false,false,false] rfl rfl (take_ofW HT_.out HW_.out (by kernel_rfl)) (fun _ _ _ h=>h) (Or.inl ⟨by rfl,?_⟩) hHeld ?_ ?_
     rotate_left
     ·rintro w' ⟨s0,s1,s2,s3,s4⟩
      go_simp
      with_reducible rfl
     rotate_left
     ·simp only [Act.put,List.setIfInBounds_toArray,List.set_cons_zero,List.set_cons_succ,i64_w,i32_w]
      rfl
     refine take_ (i:=9) (N:=some 50) (v:=?_) (a':=?_) #[true,true,true,true,true,true,true,true,true,true,true,false,false,true,true,true,false,true,true,false,false,false,false,false] rfl rfl (take_ofW HT_.out HW_.out (by kernel_rfl)) (fun _ _ _ h=>h) (Or.inl ⟨by rfl,?_⟩) hHeld ?_ ?_
     rotate_left
     ·rintro w' ⟨s0,s1,s2,s3,s4⟩
      go_simp
      with_reducible rfl
     rotate_left
     ·simp only [Act.put,List.setIfInBounds_toArray,List.set_cons_zero,List.set_cons_succ,i64_w,i32_w]
      rfl
     refine pure_ (i:=11) (N:=some 52) (v:=?_) (a':=?_) #[true,true,true,true,true,true,true,true,true,true,true,true,false,true,true,true,false,true,true,false,false,false,false,false] rfl rfl (any_of HT_.out (by kernel_rfl)) (fun _ _ _ h=>h) (Or.inl ⟨by rfl,?_⟩) ?_ ?_
     rotate_left
     ·intro w'
      go_simp
      with_reducible rfl
     rotate_left
     ·simp only [Act.put,List.setIfInBounds_toArray,List.set_cons_zero,List.set_cons_succ,i64_w,i32_w]
      rfl
     refine take_ (i:=12) (N:=some 53) (v:=?_) (a':=?_) #[true,true,true,true,true,true,true,true,true,true,true,true,true,true,true,true,false,true,true,false,false,false,false,false] rfl rfl (take_ofW HT_.out HW_.out (by kernel_rfl)) (fun _ _ _ h=>h) (Or.inl ⟨by rfl,?_⟩) hHeld ?_ ?_
     rotate_left
     ·rintro w' ⟨s0,s1,s2,s3,s4⟩
      go_simp
      with_reducible rfl
     rotate_left
     ·simp only [Act.put,List.setIfInBounds_toArray,List.set_cons_zero,List.set_cons_succ,i64_w,i32_w]
      rfl
     refine take_ (i:=16) (N:=some 57) (v:=?_) (a':=?_) #[true,true,true,true,true,true,true,true,true,true,true,true,true,true,true,true,true,true,true,false,false,false,false,false] rfl rfl (take_ofW HT_.out HW_.out (by kernel_rfl)) (fun _ _ _ h=>h) (Or.inl ⟨by rfl,?_⟩) hHeld ?_ ?_
     rotate_left
     ·rintro w' ⟨s0,s1,s2,s3,s4⟩
      go_simp
      with_reducible rfl
     rotate_left
     ·simp only [Act.put,List.setIfInBounds_toArray,List.set_cons_zero,List.set_cons_succ,i64_w,i32_w]
      rfl
     refine pure_ (i:=19) (N:=some 60) (v:=?_) (a':=?_) #[true,true,true,true,true,true,true,true,true,true,true,true,true,true,true,true,true,true,true,true,false,false,false,false] rfl rfl (any_of HT_.out (by kernel_rfl)) (fun _ _ _ h=>h) (Or.inl ⟨by rfl,?_⟩) ?_ ?_
     rotate_left
     ·intro w'
      go_simp
      with_reducible rfl
     rotate_left
     ·simp only [Act.put,List.setIfInBounds_toArray,List.set_cons_zero,List.set_cons_succ,i64_w,i32_w]
      rfl
     refine take_ (i:=20) (N:=some 61) (v:=?_) (a':=?_) #[true,true,true,true,true,true,true,true,true,true,true,true,true,true,true,true,true,true,true,true,true,false,false,false] rfl rfl (take_ofW HT_.out HW_.out (by kernel_rfl)) (fun _ _ _ h=>h) (Or.inl ⟨by rfl,?_⟩) hHeld ?_ ?_
     rotate_left
     ·rintro w' ⟨s0,s1,s2,s3,s4⟩
      go_simp
      with_reducible rfl
     rotate_left
     ·simp only [Act.put,List.setIfInBounds_toArray,List.set_cons_zero,List.set_cons_succ,i64_w,i32_w]
      rfl
     refine pure_ (i:=21) (N:=some 62) (v:=?_) (a':=?_) #[true,true,true,true,true,true,true,true,true,true,true,true,true,true,true,true,true,true,true,true,true,true,false,false] rfl rfl (any_of HT_.out (by kernel_rfl)) (fun _ _ _ h=>h) (Or.inl ⟨by rfl,?_⟩) ?_ ?_
     rotate_left
     ·intro w'
      go_simp
      with_reducible rfl
     rotate_left
     ·simp only [Act.put,List.setIfInBounds_toArray,List.set_cons_zero,List.set_cons_succ,i64_w,i32_w]
      rfl
     refine pure_ (i:=22) (N:=some 63) (v:=?_) (a':=?_) #[true,true,true,true,true,true,true,true,true,true,true,true,true,true,true,true,true,true,true,true,true,true,true,false] rfl rfl (any_of HT_.out (by kernel_rfl)) (fun _ _ _ h=>h) (Or.inl ⟨by rfl,?_⟩) ?_ ?_
     rotate_left
     ·intro w'
      go_simp
      with_reducible rfl
     rotate_left
     ·simp only [Act.put,List.setIfInBounds_toArray,List.set_cons_zero,List.set_cons_succ,i64_w,i32_w]
      rfl
     refine last_ (i:=23) (N:=none) #[true,true,true,true,true,true,true,true,true,true,true,true,true,true,true,true,true,true,true,true,true,true,true,true] rfl rfl (one_of HT_.out (by kernel_rfl)) (by decide) (fun K hK=>?_)
     refine skip_ (w1:=?_) (by rfl) rfl ?_ ?_
     rotate_left
     ·go_simp
      rfl
     refine hK.out _ _ ?_
     clear hK K
     refine done_ (done_of HT_.out (by kernel_rfl)) ?_
     try go_wp2
     have n0_:Aside0 (Kd.S (Kd.slice 3 (Kd.int .i64)) 49 (w49.setCell ⟨go42,(x7_2:Int).toNat,none⟩ (.int .i64 ji40)) w.heap.size (fun _=>True) (.slice (some ⟨go11,0,none⟩) x5_2.length co11) y128):=⟨by (with_reducible repeat (first|apply Kd.S_alloc|apply Kd.S_drewN|apply Kd.S_drew));exact HQ50.out⟩
     have n1_:Aside0 (Below w.heap.size w (w49.setCell ⟨go42,(x7_2:Int).toNat,none⟩ (.int .i64 ji40))):=⟨by repeat (first|(with_reducible first|exact HB.out|apply below_alloc|apply pw_below_drewN|apply below_drew1|refine below_set ?_ GB42.out)|exact HB.out)⟩
     (try clear HO_5)
     (try clear HB)
     generalize (w49.setCell ⟨go42,(x7_2:Int).toNat,none⟩ (.int .i64 ji40))=w52 at n0_ n1_ ⊢
     have HO_5:=n0_
     have HB:=n1_
     clear n0_ n1_
     have n0_:=Aside0.mk (Kd.S_drew HO_5.out)
     have n1_:=Aside0.mk (below_drew1 HB.out)
     clear HO_5
     clear HB
     have HO_5:=n0_
     have HB:=n1_
     clear n0_ n1_
     have p129:0≤(x6_1:Int):=of_decide_eq_true asm
     have q129:x6_1<(l0.length:Int):=of_decide_eq_true asm
     obtain ⟨ad129,e129,hx129_0⟩:=Kd.at_string HR0.out x6_1 p129 q129
     have hw129_0:=hx129_0
     cases e129
     replace hx129_0:=pw_cell_below HB.out hx129_0
     replace p129:=eq_true p129
     replace q129:=eq_true q129
     have p130:0≤(x7_2:Int):=of_decide_eq_true asm
     have q130:x7_2<(l1.length:Int):=of_decide_eq_true asm
     obtain ⟨ad130,e130,hx130_0⟩:=Kd.at_string HR1.out x7_2 p130 q130
     have hw130_0:=hx130_0
     cases e130
     replace hx130_0:=pw_cell_below HB.out hx130_0
     replace p130:=eq_true p130
     replace q130:=eq_true q130
     refine start_ (n:=9) (S:=fun w'=>w'.cell? (ad129.add (x6_1).toNat)=some (.string (rdOf ByteArray.empty l0 x6_1))∧w'.cell? (ad130.add (x7_2).toNat)=some (.string (rdOf ByteArray.empty l1 x7_2))) (ds:=[]) #[false,false,false,false,false,false,false,false,false] (by kernel_rfl) rfl rfl ⟨((HB.out.cell (World.block_lt_of_cell? w _ hw129_0)).trans hw129_0),((HB.out.cell (World.block_lt_of_cell? w _ hw130_0)).trans hw130_0)⟩ (fun hHeld=>?_);refine with_tabW diff_table.tab11 diff_table.bits11 (fun HT_ HW_=>?_)
     generalize w52.drew=w53 at HO_5 HB HQ50 hx129_0 hx130_0 hHeld ⊢
     refine pure_ (i:=0) (N:=some 64) (v:=?_) (a':=?_) #[true,false,false,false,false,false,false,false,false] rfl rfl (any_of HT_.out (by kernel_rfl)) (fun _ _ _ h=>h) (Or.inl ⟨by rfl,?_⟩) ?_ ?_
     rotate_left
     ·intro w'
      go_simp
      with_reducible rfl
     rotate_left
     ·simp only [Act.put,List.setIfInBounds_toArray,List.set_cons_zero,List.set_cons_succ,i64_w,i32_w]
      rfl
     refine pure_ (i:=1) (N:=some 65) (v:=?_) (a':=?_) #[true,true,false,false,false,false,false,false,false] rfl rfl (any_of HT_.out (by kernel_rfl)) (fun _ _ _ h=>h) (Or.inl ⟨by rfl,?_⟩) ?_ ?_
     rotate_left
     ·intro w'
      go_simp
      with_reducible rfl
     rotate_left
     ·simp only [Act.put,List.setIfInBounds_toArray,List.set_cons_zero,List.set_cons_succ,i64_w,i32_w]
      rfl
     refine pure_ (i:=2) (N:=some 66) (v:=?_) (a':=?_) #[true,true,true,false,false,false,false,false,false] rfl rfl (any_of HT_.out (by kernel_rfl)) (fun _ _ _ h=>h) (Or.inl ⟨by rfl,?_⟩) ?_ ?_
     rotate_left
     ·intro w'
      go_simp
      with_reducible rfl
     rotate_left
     ·simp only [Act.put,List.setIfInBounds_toArray,List.set_cons_zero,List.set_cons_succ,i64_w,i32_w]
      rfl
     refine pure_ (i:=4) (N:=some 68) (v:=?_) (a':=?_) #[true,true,true,false,true,false,false,false,false] rfl rfl (any_of HT_.out (by kernel_rfl)) (fun _ _ _ h=>h) (Or.inl ⟨by rfl,?_⟩) ?_ ?_
     rotate_left
     ·intro w'
      go_simp
      with_reducible rfl
     rotate_left
     ·simp only [Act.put,List.setIfInBounds_toArray,List.set_cons_zero,List.set_cons_succ,i64_w,i32_w]
      rfl
     refine pure_ (i:=5) (N:=some 69) (v:=?_) (a':=?_) #[true,true,true,false,true,true,false,false,false] rfl rfl (any_of HT_.out (by kernel_rfl)) (fun _ _ _ h=>h) (Or.inl ⟨by rfl,?_⟩) ?_ ?_
     rotate_left
     ·intro w'
      go_simp
      with_reducible rfl
     rotate_left
     ·simp only [Act.put,List.setIfInBounds_toArray,List.set_cons_zero,List.set_cons_succ,i64_w,i32_w]
      rfl
     refine pure_ (i:=6) (N:=some 70) (v:=?_) (a':=?_) #[true,true,true,false,true,true,true,false,false] rfl rfl (any_of HT_.out (by kernel_rfl)) (fun _ _ _ h=>h) (Or.inl ⟨by rfl,?_⟩) ?_ ?_
     rotate_left
     ·intro w'
      go_simp
      with_reducible rfl
     rotate_left
     ·simp only [Act.put,List.setIfInBounds_toArray,List.set_cons_zero,List.set_cons_succ,i64_w,i32_w]
      rfl
     refine take_ (i:=3) (N:=some 67) (v:=?_) (a':=?_) #[true,true,true,true,true,true,true,false,false] rfl rfl (take_ofW HT_.out HW_.out (by kernel_rfl)) (fun _ _ _ h=>h) (Or.inl ⟨by rfl,?_⟩) hHeld ?_ ?_
     rotate_left
     ·rintro w' ⟨s0,s1⟩
      go_simp
      with_reducible rfl
     rotate_left
     ·simp only [Act.put,List.setIfInBounds_toArray,List.set_cons_zero,List.set_cons_succ,i64_w,i32_w]
      rfl
     refine take_ (i:=7) (N:=some 71) (v:=?_) (a':=?_) #[true,true,true,true,true,true,true,true,false] rfl rfl (take_ofW HT_.out HW_.out (by kernel_rfl)) (fun _ _ _ h=>h) (Or.inl ⟨by rfl,?_⟩) hHeld ?_ ?_
     rotate_left
     ·rintro w' ⟨s0,s1⟩
      go_simp
      with_reducible rfl
     rotate_left
     ·simp only [Act.put,List.setIfInBounds_toArray,List.set_cons_zero,List.set_cons_succ,i64_w,i32_w]
      rfl
     refine pure_ (i:=8) (N:=some 72) (v:=?_) (a':=?_) #[true,true,true,true,true,true,true,true,true] rfl rfl (any_of HT_.out (by kernel_rfl)) (fun _ _ _ h=>h) (Or.inl ⟨by rfl,?_⟩) ?_ ?_
     rotate_left
     ·intro w'
      go_simp
      with_reducible rfl
     rotate_left
     ·simp only [Act.put,List.setIfInBounds_toArray,List.set_cons_zero,List.set_cons_succ,i64_w,i32_w]
      rfl
     refine done_ (done_of HT_.out (by kernel_rfl)) ?_
     try go_wp2
     have n0_:=Aside0.mk (Kd.S_drew HO_5.out)
     have n1_:=Aside0.mk (below_drew1 HB.out)
     clear HO_5
     clear HB
     have HO_5:=n0_
     have HB:=n1_
     clear n0_ n1_
     have p131:0≤(x6_1:Int):=of_decide_eq_true asm
     have q131:x6_1<(y128.length:Int):=(by have h_:(x6_1:Int)<((x5_2.length:Int):Int):=of_decide_eq_true asm;first|(have e_:=(Kd.S_reads' HO_5.out).1;omega)|simpa only [Ny128.out,List.length_set] using h_)
     have ql131:((x6_1:Int)<((x5_2.length:Int):Int))=True:=eq_true (of_decide_eq_true asm)
     obtain ⟨ad131,A131_0,c131_0,e131,hx131_0,hl131_0,hi131_0⟩:=at_LI (Kd.S_reads' HO_5.out).2.2 x6_1 p131 q131
     obtain rfl:(⟨go11,0,none⟩:Addr)=ad131:=(by injection e131)
     obtain ⟨ce131,hce131,hMe131,hcc131⟩:=Kd.S_get HO_5.out [] x6_1 p131 (by first|exact q131|exact of_decide_eq_true asm|(have e_:=(Kd.S_reads' HO_5.out).1;omega))
     obtain ⟨ve131_0,rfl,ge131_0⟩:=hMe131
     have hv131_0:=hcc131 0 _ rfl
     rw [Nat.add_zero,show ((Kd.slice 3 (Kd.int .i64))).sz=1 from rfl,Nat.mul_one] at hv131_0
     replace hv131_0:=Option.some.inj (hv131_0.symm.trans hx131_0)
     rw [hv131_0] at ge131_0
     have HL131_0:=Aside0.mk (show Kd.R (Kd.int .i64) 3 _ _ _ _ (rd_LI y128 x6_1) from ge131_0)
     clear hv131_0 ge131_0
     have HX131_0:=Aside0.mk hx131_0
     clear hcc131 hce131
     (first|simp only [add_plain] at hx131_0|simp only [add_at] at hx131_0|simp only [Addr.add,Nat.zero_add] at hx131_0|skip)
     have HR131_0:=Aside0.mk hi131_0
     have HC131_0:=Aside0.mk hl131_0
     clear hi131_0 hl131_0
     replace p131:=eq_true p131
     replace q131:=eq_true q131
     have p132:0≤((ji32):Int):=of_decide_eq_true asm
     have q132:(ji32)<(y128.length:Int):=(by have h_:((ji32):Int)<((x5_2.length:Int):Int):=of_decide_eq_true asm;first|(have e_:=(Kd.S_reads' HO_5.out).1;omega)|simpa only [Ny128.out,List.length_set] using h_)
     have ql132:(((ji32):Int)<((x5_2.length:Int):Int))=True:=eq_true (of_decide_eq_true asm)
     obtain ⟨ad132,A132_0,c132_0,e132,hx132_0,hl132_0,hi132_0⟩:=at_LI (Kd.S_reads' HO_5.out).2.2 (ji32) p132 q132
     obtain rfl:(⟨go11,0,none⟩:Addr)=ad132:=(by injection e132)
     obtain ⟨ce132,hce132,hMe132,hcc132⟩:=Kd.S_get HO_5.out [] (ji32) p132 (by first|exact q132|exact of_decide_eq_true asm|(have e_:=(Kd.S_reads' HO_5.out).1;omega))
     obtain ⟨ve132_0,rfl,ge132_0⟩:=hMe132
     have hv132_0:=hcc132 0 _ rfl
     rw [Nat.add_zero,show ((Kd.slice 3 (Kd.int .i64))).sz=1 from rfl,Nat.mul_one] at hv132_0
     replace hv132_0:=Option.some.inj (hv132_0.symm.trans hx132_0)
     rw [hv132_0] at ge132_0
     have HL132_0:=Aside0.mk (show Kd.R (Kd.int .i64) 3 _ _ _ _ (rd_LI y128 (ji32)) from ge132_0)
     clear hv132_0 ge132_0
     have HX132_0:=Aside0.mk hx132_0
     clear hcc132 hce132
     (first|simp only [add_plain] at hx132_0|simp only [add_at] at hx132_0|simp only [Addr.add,Nat.zero_add] at hx132_0|skip)
     have HR132_0:=Aside0.mk hi132_0
     have HC132_0:=Aside0.mk hl132_0
     clear hi132_0 hl132_0
     replace p132:=eq_true p132
     replace q132:=eq_true q132
     have p133:0≤((ji37):Int):=of_decide_eq_true asm
     have q133:(ji37)<((rd_LI y128 (ji32)).length:Int):=of_decide_eq_true asm
     obtain ⟨ad133,e133,hx133_0⟩:=Kd.at_int (by repeat (first|(with_reducible exact HR132_0.out)|(with_reducible refine Kd.C_alloc ?_ _)|(with_reducible refine Kd.C_drewN ?_ _)|(with_reducible refine Kd.C_drew ?_)|exact HR132_0.out)) (ji37) p133 q133
     cases e133
     replace p133:=eq_true p133
     replace q133:=eq_true q133
     have p48:0≤(x7_2:Int):=of_decide_eq_true asm
     have q48:(x7_2:Int)<(((rd_LI y128 x6_1).length:Int):Int):=of_decide_eq_true asm
     obtain ⟨go48,co48,eo48,gb48,gl48,cl48,HG48⟩:=Kd.R_form HL131_0.out (by omega)
     (first|cases eo48|(injection eo48 with ea_ en_ ec_;(first|subst ea_|(injection ea_ with ea_;subst ea_));subst ec_;clear en_))
     have GB48:=Aside0.mk gb48
     have GG48:=Aside0.mk HG48
     clear gb48 gl48 HG48
     obtain ⟨hx48_0,hf48_0⟩:=Kd.R_celln 0 HL131_0.out (x7_2:Int) p48 q48
     replace p48:=eq_true p48
     replace q48:=eq_true q48
     have hq55:(x6_1:Int)<(x5_2.length:Int):=(by have h_:(x6_1:Int)<((x5_2.length:Int):Int):=of_decide_eq_true asm;first|exact h_|(have e_:=(Kd.S_reads' HO_5.out).1;omega)|simpa only [Ny128.out,List.length_set] using h_)
     obtain ⟨oki55,ce55,hcl55,hM55,hcc55,hok55,hbk55⟩:=Kd.S_borrow HO_5.out [] (x6_1:Int) (of_decide_eq_true asm) hq55
     obtain ⟨ve55_0,rfl,ge55_0⟩:=hM55
     have hv55:=hcc55 0 _ rfl
     rw [Nat.add_zero,show ((Kd.slice 3 (Kd.int .i64))).sz=1 from rfl,Nat.mul_one] at hv55
     replace hv55:=Option.some.inj (hv55.symm.trans HX131_0.out)
     subst hv55
     clear hcc55 hcl55
     replace ge55_0:=(show Kd.R (Kd.int .i64) 3 _ _ _ _ (rd_LI y128 x6_1) from ge55_0)
     have HP55:=Kd.R_putg ge55_0 (x7_2:Int) (wrap64 ((rd (rd_LI y128 (ji32)) (ji37))+1))
     rw [← Ny134.out] at HP55
     have HS55:=hbk55 HP55.2 (fun k_ e_=>by injection e_ with e_;subst e_;exact ge55_0.1 _ rfl) (x':=y134) (Kd.M_row HP55.1)
     rw [← Ny136.out] at HS55
     have HQ55:=Aside0.mk HS55
     clear HP55 HS55 hbk55 hok55
     refine start_ (n:=17) (S:=fun w'=>w'.cell? ⟨go11,(x6_1).toNat,none⟩=some (.slice (some ⟨go48,0,none⟩) (rd_LI y128 x6_1).length c131_0)∧w'.cell? ⟨go11,((ji32)).toNat,none⟩=some (.slice (some ad133) (rd_LI y128 (ji32)).length c132_0)∧w'.cell? (ad133.add ((ji37)).toNat)=some (.int .i64 (rd (rd_LI y128 (ji32)) (ji37)))) (ds:=[16]) #[false,false,false,false,false,false,false,false,false,false,false,false,false,false,false,false,false] (by kernel_rfl) rfl rfl ⟨hx131_0,hx132_0,hx133_0⟩ (fun hHeld=>?_);refine with_tabW diff_table.tab12 diff_table.bits12 (fun HT_ HW_=>?_)
     generalize w53.drew=w54 at HO_5 HB GG48 HL131_0 HL132_0 HQ55 HR131_0 HR132_0 HX131_0 HX132_0 hf48_0 hx131_0 hx132_0 hx133_0 hx48_0 hHeld ⊢
     refine pure_ (i:=0) (N:=some 73) (v:=?_) (a':=?_) #[true,false,false,false,false,false,false,false,false,false,false,false,false,false,false,false,false] rfl rfl (any_of HT_.out (by kernel_rfl)) (fun _ _ _ h=>h) (Or.inl ⟨by rfl,?_⟩) ?_ ?_
     rotate_left
     ·intro w'
      go_simp
      with_reducible rfl
     rotate_left
     ·simp only [Act.put,List.setIfInBounds_toArray,List.set_cons_zero,List.set_cons_succ,i64_w,i32_w]
      rfl
     refine pure_ (i:=1) (N:=some 74) (v:=?_) (a':=?_) #[true,true,false,false,false,false,false,false,false,false,false,false,false,false,false,false,false] rfl rfl (any_of HT_.out (by kernel_rfl)) (fun _ _ _ h=>h) (Or.inl ⟨by rfl,?_⟩) ?_ ?_
     rotate_left
     ·intro w'
      go_simp
      with_reducible rfl
     rotate_left
     ·simp only [Act.put,List.setIfInBounds_toArray,List.set_cons_zero,List.set_cons_succ,i64_w,i32_w]
      rfl
     refine pure_ (i:=2) (N:=some 75) (v:=?_) (a':=?_) #[true,true,true,false,false,false,false,false,false,false,false,false,false,false,false,false,false] rfl rfl (any_of HT_.out (by kernel_rfl)) (fun _ _ _ h=>h) (Or.inl ⟨by rfl,?_⟩) ?_ ?_
     rotate_left
     ·intro w'
      go_simp
      with_reducible rfl
     rotate_left
     ·simp only [Act.put,List.setIfInBounds_toArray,List.set_cons_zero,List.set_cons_succ,i64_w,i32_w]
      rfl
     refine pure_ (i:=4) (N:=some 77) (v:=?_) (a':=?_) #[true,true,true,false,true,false,false,false,false,false,false,false,false,false,false,false,false] rfl rfl (any_of HT_.out (by kernel_rfl)) (fun _ _ _ h=>h) (Or.inl ⟨by rfl,?_⟩) ?_ ?_
     rotate_left
     ·intro w'
      go_simp
      with_reducible rfl
     rotate_left
     ·simp only [Act.put,List.setIfInBounds_toArray,List.set_cons_zero,List.set_cons_succ,i64_w,i32_w]
      rfl
     refine pure_ (i:=5) (N:=some 78) (v:=?_) (a':=?_) #[true,true,true,false,true,true,false,false,false,false,false,false,false,false,false,false,false] rfl rfl (any_of HT_.out (by kernel_rfl)) (fun _ _ _ h=>h) (Or.inl ⟨by rfl,?_⟩) ?_ ?_
     rotate_left
     ·intro w'
      go_simp
      with_reducible rfl
     rotate_left
     ·simp only [Act.put,List.setIfInBounds_toArray,List.set_cons_zero,List.set_cons_succ,i64_w,i32_w]
      rfl
     refine pure_ (i:=6) (N:=some 79) (v:=?_) (a':=?_) #[true,true,true,false,true,true,true,false,false,false,false,false,false,false,false,false,false] rfl rfl (any_of HT_.out (by kernel_rfl)) (fun _ _ _ h=>h) (Or.inl ⟨by rfl,?_⟩) ?_ ?_
     rotate_left
     ·intro w'
      go_simp
      with_reducible rfl
     rotate_left
     ·simp only [Act.put,List.setIfInBounds_toArray,List.set_cons_zero,List.set_cons_succ,i64_w,i32_w]
      rfl
     refine pure_ (i:=7) (N:=some 80) (v:=?_) (a':=?_) #[true,true,true,false,true,true,true,true,false,false,false,false,false,false,false,false,false] rfl rfl (any_of HT_.out (by kernel_rfl)) (fun _ _ _ h=>h) (Or.inl ⟨by rfl,?_⟩) ?_ ?_
     rotate_left
     ·intro w'
      go_simp
      with_reducible rfl
     rotate_left
     ·simp only [Act.put,List.setIfInBounds_toArray,List.set_cons_zero,List.set_cons_succ,i64_w,i32_w]
      rfl
     refine pure_ (i:=8) (N:=some 81) (v:=?_) (a':=?_) #[true,true,true,false,true,true,true,true,true,false,false,false,false,false,false,false,false] rfl rfl (any_of HT_.out (by kernel_rfl)) (fun _ _ _ h=>h) (Or.inl ⟨by rfl,?_⟩) ?_ ?_
     rotate_left
     ·intro w'
      go_simp
      with_reducible rfl
     rotate_left
     ·simp only [Act.put,List.setIfInBounds_toArray,List.set_cons_zero,List.set_cons_succ,i64_w,i32_w]
      rfl
     refine pure_ (i:=10) (N:=some 83) (v:=?_) (a':=?_) #[true,true,true,false,true,true,true,true,true,false,true,false,false,false,false,false,false] rfl rfl (any_of HT_.out (by kernel_rfl)) (fun _ _ _ h=>h) (Or.inl ⟨by rfl,?_⟩) ?_ ?_
     rotate_left
     ·intro w'
      go_simp
      with_reducible rfl
     rotate_left
     ·simp only [Act.put,List.setIfInBounds_toArray,List.set_cons_zero,List.set_cons_succ,i64_w,i32_w]
      rfl
     refine pure_ (i:=11) (N:=some 84) (v:=?_) (a':=?_) #[true,true,true,false,true,true,true,true,true,false,true,true,false,false,false,false,false] rfl rfl (any_of HT_.out (by kernel_rfl)) (fun _ _ _ h=>h) (Or.inl ⟨by rfl,?_⟩) ?_ ?_
     rotate_left
     ·intro w'
      go_simp
      with_reducible rfl
     rotate_left
     ·simp only [Act.put,List.setIfInBounds_toArray,List.set_cons_zero,List.set_cons_succ,i64_w,i32_w]
      rfl
     refine take_ (i:=3) (N:=some 76) (v:=?_) (a':=?_) #[true,true,true,true,true,true,true,true,true,false,true,true,false,false,false,false,false] rfl rfl (take_ofW HT_.out HW_.out (by kernel_rfl)) (fun _ _ _ h=>h) (Or.inl ⟨by rfl,?_⟩) hHeld ?_ ?_
     rotate_left
     ·rintro w' ⟨s0,s1,s2⟩
      go_simp
      with_reducible rfl
     rotate_left
     ·simp only [Act.put,List.setIfInBounds_toArray,List.set_cons_zero,List.set_cons_succ,i64_w,i32_w]
      rfl
     refine take_ (i:=9) (N:=some 82) (v:=?_) (a':=?_) #[true,true,true,true,true,true,true,true,true,true,true,true,false,false,false,false,false] rfl rfl (take_ofW HT_.out HW_.out (by kernel_rfl)) (fun _ _ _ h=>h) (Or.inl ⟨by rfl,?_⟩) hHeld ?_ ?_
     rotate_left
     ·rintro w' ⟨s0,s1,s2⟩
      go_simp
      with_reducible rfl
     rotate_left
     ·simp only [Act.put,List.setIfInBounds_toArray,List.set_cons_zero,List.set_cons_succ,i64_w,i32_w]
      rfl
     refine pure_ (i:=12) (N:=some 85) (v:=?_) (a':=?_) #[true,true,true,true,true,true,true,true,true,true,true,true,true,false,false,false,false] rfl rfl (any_of HT_.out (by kernel_rfl)) (fun _ _ _ h=>h) (Or.inl ⟨by rfl,?_⟩) ?_ ?_
     rotate_left
     ·intro w'
      go_simp
      with_reducible rfl
     rotate_left
     ·simp only [Act.put,List.setIfInBounds_toArray,List.set_cons_zero,List.set_cons_succ,i64_w,i32_w]
      rfl
     refine take_ (i:=13) (N:=some 86) (v:=?_) (a':=?_) #[true,true,true,true,true,true,true,true,true,true,true,true,true,true,false,false,false] rfl rfl (take_ofW HT_.out HW_.out (by kernel_rfl)) (fun _ _ _ h=>h) (Or.inl ⟨by rfl,?_⟩) hHeld ?_ ?_
     rotate_left
     ·rintro w' ⟨s0,s1,s2⟩
      go_simp
      with_reducible rfl
     rotate_left
     ·simp only [Act.put,List.setIfInBounds_toArray,List.set_cons_zero,List.set_cons_succ,i64_w,i32_w]
      rfl
     refine pure_ (i:=14) (N:=some 87) (v:=?_) (a':=?_) #[true,true,true,true,true,true,true,true,true,true,true,true,true,true,true,false,false] rfl rfl (any_of HT_.out (by kernel_rfl)) (fun _ _ _ h=>h) (Or.inl ⟨by rfl,?_⟩) ?_ ?_
     rotate_left
     ·intro w'
      go_simp
      with_reducible rfl
     rotate_left
     ·simp only [Act.put,List.setIfInBounds_toArray,List.set_cons_zero,List.set_cons_succ,i64_w,i32_w]
      rfl
     refine pure_ (i:=15) (N:=some 88) (v:=?_) (a':=?_) #[true,true,true,true,true,true,true,true,true,true,true,true,true,true,true,true,false] rfl rfl (any_of HT_.out (by kernel_rfl)) (fun _ _ _ h=>h) (Or.inl ⟨by rfl,?_⟩) ?_ ?_
     rotate_left
     ·intro w'
      go_simp
      with_reducible rfl
     rotate_left
     ·simp only [Act.put,List.setIfInBounds_toArray,List.set_cons_zero,List.set_cons_succ,i64_w,i32_w]
      rfl
     refine last_ (i:=16) (N:=none) #[true,true,true,true,true,true,true,true,true,true,true,true,true,true,true,true,true] rfl rfl (one_of HT_.out (by kernel_rfl)) (by decide) (fun K hK=>?_)
     refine skip_ (w1:=?_) (by rfl) rfl ?_ ?_
     rotate_left
     ·go_simp
      rfl
     refine hK.out _ _ ?_
     clear hK K
     refine done_ (done_of HT_.out (by kernel_rfl)) ?_
     try go_wp2
     (try simp only [← hl5_2])
     go_roundg k2
     case measure=>have:=HK1.out;have:=HK2.out;omega
     case rel=>exact ⟨(y136),(wrap64 (x7_2 - 1)),rx,H',⟨by have:=HK1.out;have:=HK2.out;omega⟩,⟨by (try simp only [hl5_1]);(try simp only [hl5_2]);(with_reducible repeat (first|apply Kd.S_alloc|apply Kd.S_drewN|apply Kd.S_drew));exact HQ55.out⟩,⟨by repeat (first|(with_reducible first|exact HB.out|apply below_alloc|apply pw_below_drewN|apply below_drew1|refine below_set ?_ GB48.out)|exact HB.out)⟩⟩
end Go.Proofs.Ytnmphfelebkaiaa.Pr
-- shrunk
