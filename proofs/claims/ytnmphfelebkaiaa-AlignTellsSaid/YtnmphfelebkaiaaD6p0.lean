import Derived.Test.YtnmphfelebkaiaaK0
import Derived.Test.YtnmphfelebkaiaaGRefDiff
import Derived.Test.YtnmphfelebkaiaaK5
set_option linter.unusedVariables false
set_option linter.unusedSimpArgs false
namespace Go.Proofs.Ytnmphfelebkaiaa.Pr
open Go.RowKit Go.Proofs.YtnmphfelebkaiaaW.PrintWords Go.Proofs.YtnmphfelebkaiaaW.PrintLast Go.Proofs.YtnmphfelebkaiaaW.PrintMore
attribute [local go_sem] max2_int min2_int max_two min_two max_three min_three max_four min_four

def r08_Regions.T31:Bool × List (List Nat × List Nat):=(true,[([],[]),([],[]),([0,1],[0,1]),([2],[2]),([],[]),([],[]),([4,5],[4,5]),([6],[6]),([3,7],[3,7])])
def r08_Regions.B31:List Nat:=[0,0,3,7,0,0,48,112,255]
theorem r08_Regions.tab31:rtab .any (opsOf Try.f10 31)=r08_Regions.T31:=by kernel_rfl
theorem r08_Regions.bits31:waitsOk r08_Regions.T31.2 r08_Regions.B31=true:=by kernel_rfl
def r08_Regions.T32:Bool × List (List Nat × List Nat):=(true,[([],[]),([],[]),([],[]),([1,2],[1,2]),([3],[3]),([4],[4]),([],[]),([],[]),([6,7],[6,7]),([8],[8]),([9],[9]),([5,10],[5,10]),([0,11],[0,11]),([12,0,1,2,3,4,5,6,7,8,9,10,11,12],[0,12])])
def r08_Regions.B32:List Nat:=[0,0,0,6,14,30,0,0,192,448,960,2046,4095,8191]
theorem r08_Regions.tab32:rtab .any (opsOf Try.f10 32)=r08_Regions.T32:=by kernel_rfl
theorem r08_Regions.bits32:waitsOk r08_Regions.T32.2 r08_Regions.B32=true:=by kernel_rfl
def r08_Regions.T34:Bool × List (List Nat × List Nat):=(true,[([],[]),([0],[0]),([1],[1]),([],[]),([],[]),([3,4],[3,4]),([5],[5]),([6],[6]),([7],[7]),([2,8],[2,8]),([],[]),([],[]),([10,11],[10,11]),([12],[12]),([13],[13]),([9,14],[9,14]),([0,1,2,3,4,5,6,7,8,9,10,11,12,13,14,15],[]),([16,0,1,2,3,4,5,6,7,8,9,10,11,12,13,14,15],[16]),([17,15,0,1,2,3,4,5,6,7,8,9,10,11,12,13,14,15],[15,17])])
def r08_Regions.B34:List Nat:=[0,1,3,0,0,24,56,120,248,511,0,0,3072,7168,15360,32767,65535,131071,262143]
theorem r08_Regions.tab34:rtab .any (opsOf Try.f10 34)=r08_Regions.T34:=by kernel_rfl
theorem r08_Regions.bits34:waitsOk r08_Regions.T34.2 r08_Regions.B34=true:=by kernel_rfl
def r08_Regions.T36:Bool × List (List Nat × List Nat):=(true,[([],[]),([0],[0]),([1],[1]),([],[]),([],[]),([3,4],[3,4]),([5],[5]),([6],[6]),([7],[7]),([2,8],[2,8]),([],[]),([],[]),([10,11],[10,11]),([12],[12]),([13],[13]),([9,14],[9,14]),([0,1,2,3,4,5,6,7,8,9,10,11,12,13,14,15],[]),([16,0,1,2,3,4,5,6,7,8,9,10,11,12,13,14,15],[16]),([17,15,0,1,2,3,4,5,6,7,8,9,10,11,12,13,14,15],[15,17])])
def r08_Regions.B36:List Nat:=[0,1,3,0,0,24,56,120,248,511,0,0,3072,7168,15360,32767,65535,131071,262143]
theorem r08_Regions.tab36:rtab .any (opsOf Try.f10 36)=r08_Regions.T36:=by kernel_rfl
theorem r08_Regions.bits36:waitsOk r08_Regions.T36.2 r08_Regions.B36=true:=by kernel_rfl
def r08_Regions.T41:Bool × List (List Nat × List Nat):=(true,[([],[]),([],[]),([],[]),([],[]),([3],[3]),([4],[4]),([2,5],[2,5]),([0,1,6],[0,1,6]),([],[]),([],[]),([],[]),([],[]),([11],[11]),([12],[12]),([10,13],[10,13]),([8,9,14],[8,9,14]),([7,15],[7,15]),([16,16,0,1,2,3,4,5,6,7,8,9,10,11,12,13,14,15,16],[16])])
def r08_Regions.B41:List Nat:=[0,0,0,0,8,24,60,127,0,0,0,0,2048,6144,15360,32512,65535,131071]
theorem r08_Regions.tab41:rtab .any (opsOf Try.f10 41)=r08_Regions.T41:=by kernel_rfl
theorem r08_Regions.bits41:waitsOk r08_Regions.T41.2 r08_Regions.B41=true:=by kernel_rfl
def r08_Regions.T56:Bool × List (List Nat × List Nat):=(true,[([],[]),([],[]),([0,1],[0,1]),([2],[2]),([],[]),([],[]),([4,5],[4,5]),([6],[6]),([3,7],[3,7]),([8],[8]),([9],[9]),([9],[9]),([10,11,9],[9,10,11]),([9,12],[9,12])])
def r08_Regions.B56:List Nat:=[0,0,3,7,0,0,48,112,255,511,1023,1023,4095,8191]
theorem r08_Regions.tab56:rtab .any (opsOf Try.f10 56)=r08_Regions.T56:=by kernel_rfl
theorem r08_Regions.bits56:waitsOk r08_Regions.T56.2 r08_Regions.B56=true:=by kernel_rfl
theorem za {α:Type} (l:List α) (i:Nat) (a:α):l.toArray.setIfInBounds i a=(l.set i a).toArray:=List.setIfInBounds_toArray l i a
theorem zb {α:Type} {x:α} {l:List α} {b:α}:(x :: l).set 0 b=b :: l:=rfl
theorem zc {α:Type} {x:α} {l:List α} {b:α} {n:Nat}:(x :: l).set (n+1) b=x :: l.set n b:=rfl
structure Held (p:Prop):Prop where
 out:p
set_option maxHeartbeats 0 in
set_option maxRecDepth 100000 in
noncomputable def r08_Regions.calls.p0:PSigma fun G122:Prop=>(Held G122→∀ (k:Nat) (A0:Option Addr) (c0:Nat) (l0:List ByteArray) (A1:Option Addr) (c1:Nat) (l1:List ByteArray) (A2:Option Addr) (c2:Nat) (l2:List ByteArray) (r:List (S32)) (w:World) (hr0:Kd.C Kd.string w A0 l0.length l0) (hc0:l0.length≤c0) (hr1:Kd.C Kd.string w A1 l1.length l1) (hc1:l1.length≤c1) (hr2:Kd.C Kd.string w A2 l2.length l2) (hc2:l2.length≤c2) (h:r08_Regions.f k l0 l1 l2=some r),Calls Try.prog 10 #[.slice A0 l0.length c0,.slice A1 l1.length c1,.slice A2 l2.length c2] w fun e w'=>∃ v0_:Value,e=.returned (v0_)∧Kd.R k32 32 w' w.heap.size (fun _=>True) v0_ r∧Below w.heap.size w w'):=⟨_,by
 intro g122
 intro k A0 c0 l0 A1 c1 l1 A2 c2 l2 r w hr0 hc0 hr1 hc1 hr2 hc2 h
 have hu30:=Try.underlying30
 have hu32:=Try.underlying32
 have HR0:=Aside0.mk hr0
 have HC0:=Aside0.mk hc0
 clear hr0 hc0
 have HR1:=Aside0.mk hr1
 have HC1:=Aside0.mk hc1
 clear hr1 hc1
 have HR2:=Aside0.mk hr2
 have HC2:=Aside0.mk hc2
 clear hr2 hc2
 have HB:=Aside0.mk (Below.refl w.heap.size w)
 have H:((r04_Diff.f l0 l1).bind fun t132=>((some (([]:List (S52)):List (S52))).bind fun y135=>(if y135.length+t132.length<3518437208883 then ((some (y135++t132:List (S52))).bind fun y138=>((r04_Diff.f l0 l2).bind fun t141=>(if y138.length+t141.length<3518437208883 then ((some (y138++t141:List (S52))).bind fun y144=>((r08_marks.f k y144).bind fun t147=>(r08_Regions.l0 k l0 l1 l2 t132 y144 t147 ([]:List (S32)) 0 0 0))) else (none)))) else (none))))=some r:=h
 clear h
 replace H:=Option.bind_eq_some_iff.mp H
 obtain ⟨t132,A40,H⟩:=H
 replace H:((some (([]:List (S52)):List (S52))).bind fun y135=>(if y135.length+t132.length<3518437208883 then ((some (y135++t132:List (S52))).bind fun y138=>((r04_Diff.f l0 l2).bind fun t141=>(if y138.length+t141.length<3518437208883 then ((some (y138++t141:List (S52))).bind fun y144=>((r08_marks.f k y144).bind fun t147=>(r08_Regions.l0 k l0 l1 l2 t132 y144 t147 ([]:List (S32)) 0 0 0))) else (none)))) else (none)))=some r:=H
 have A4:=Aside0.mk A40
 clear A40
 obtain ⟨y135,hy135⟩:∃ y_:List (S52),y_=(([]:List (S52))):=⟨_,rfl⟩
 replace H:(if y135.length+t132.length<3518437208883 then ((some (y135++t132:List (S52))).bind fun y138=>((r04_Diff.f l0 l2).bind fun t141=>(if y138.length+t141.length<3518437208883 then ((some (y138++t141:List (S52))).bind fun y144=>((r08_marks.f k y144).bind fun t147=>(r08_Regions.l0 k l0 l1 l2 t132 y144 t147 ([]:List (S32)) 0 0 0))) else (none)))) else (none))=some r:=by first|(rw [hy135];with_reducible exact H)|(have H2_:=(Option.bind_some _ _).symm.trans H;rw [hy135];with_reducible exact H2_)|(have H2_:=(Option.bind_some _ _).symm.trans H;with_reducible exact H2_)|with_reducible exact H|(rw [hy135];exact H)|exact H
 have Ny135:=Aside0.mk hy135
 clear hy135
 by_cases c5:y135.length+t132.length<3518437208883
 rotate_left
 ·rw [if_neg c5] at H
  exact absurd H (by simp)

 rw [if_pos c5] at H
 have LMc5:=Aside0.mk c5
 clear c5
 obtain ⟨y138,hy138⟩:∃ y_:List (S52),y_=(y135++t132):=⟨_,rfl⟩
 replace H:((r04_Diff.f l0 l2).bind fun t141=>(if y138.length+t141.length<3518437208883 then ((some (y138++t141:List (S52))).bind fun y144=>((r08_marks.f k y144).bind fun t147=>(r08_Regions.l0 k l0 l1 l2 t132 y144 t147 ([]:List (S32)) 0 0 0))) else (none)))=some r:=by first|(rw [hy138];with_reducible exact H)|(have H2_:=(Option.bind_some _ _).symm.trans H;rw [hy138];with_reducible exact H2_)|(have H2_:=(Option.bind_some _ _).symm.trans H;with_reducible exact H2_)|with_reducible exact H|(rw [hy138];exact H)|exact H
 have Ny138:=Aside0.mk hy138
 clear hy138
 replace H:=Option.bind_eq_some_iff.mp H
 obtain ⟨t141,A60,H⟩:=H
 replace H:(if y138.length+t141.length<3518437208883 then ((some (y138++t141:List (S52))).bind fun y144=>((r08_marks.f k y144).bind fun t147=>(r08_Regions.l0 k l0 l1 l2 t132 y144 t147 ([]:List (S32)) 0 0 0))) else (none))=some r:=H
 have A6:=Aside0.mk A60
 clear A60
 by_cases c7:y138.length+t141.length<3518437208883
 rotate_left
 ·rw [if_neg c7] at H
  exact absurd H (by simp)
 rw [if_pos c7] at H
 have LMc7:=Aside0.mk c7
 clear c7
 obtain ⟨y144,hy144⟩:∃ y_:List (S52),y_=(y138++t141):=⟨_,rfl⟩
 replace H:((r08_marks.f k y144).bind fun t147=>(r08_Regions.l0 k l0 l1 l2 t132 y144 t147 ([]:List (S32)) 0 0 0))=some r:=by first|(rw [hy144];with_reducible exact H)|(have H2_:=(Option.bind_some _ _).symm.trans H;rw [hy144];with_reducible exact H2_)|(have H2_:=(Option.bind_some _ _).symm.trans H;with_reducible exact H2_)|with_reducible exact H|(rw [hy144];exact H)|exact H
 have Ny144:=Aside0.mk hy144
 clear hy144
 replace H:=Option.bind_eq_some_iff.mp H
 obtain ⟨t147,A80,H⟩:=H
 replace H:(r08_Regions.l0 k l0 l1 l2 t132 y144 t147 ([]:List (S32)) 0 0 0)=some r:=H
 have A8:=Aside0.mk A80
 clear A80
 have H':=Aside0.mk H
 clear H
 go_enter Try.func10,Try.ntmps10
 go_wp2_with (first|((with_reducible refine gate_callee (f:=20) rfl ?_);refine goesL_ (some 27) rfl rfl Try.func20 (by kernel_rfl) rfl #[.slice A0 l0.length c0,.slice A1 l1.length c1] rfl (by (try simp only [List.map_toArray,List.map_cons,List.map_nil]);first|done|rfl|(simp only [List.length_drop,List.length_take];rfl)) ?_;(with_reducible refine (r04_Diff.calls _ _ l0 _ _ l1 t132 _ ?side1 ?side2 ?side3 ?side4 A4.out).mono ?_);(case side1=>repeat (first|exact HR0.out|(with_reducible refine Kd.C_alloc ?_ _)|(with_reducible refine Kd.C_drewN ?_ _)|(with_reducible refine Kd.C_drew ?_)));(case side2=>exact HC0.out);(case side3=>repeat (first|exact HR1.out|(with_reducible refine Kd.C_alloc ?_ _)|(with_reducible refine Kd.C_drewN ?_ _)|(with_reducible refine Kd.C_drew ?_)));(case side4=>exact HC1.out);rintro e w9 ⟨v133,rfl,ho0,hb⟩;refine ⟨_,rfl,?_⟩;have n0_:=Aside0.mk (Kd.N_lower (Kd.N_mono (ok':=fun k_=>True) (Kd.S_N (Kd.S_bound ho0)) (fun k_ hk_=>trivial)) (below_size bel));have n1_:=Aside0.mk (below_step bel hb);clear HB;have HO134:=n0_;have HB:=n1_;clear n0_ n1_;(try clear hb);(try clear hb2);(try clear hk);(try clear hi);(try clear ho0))|((with_reducible refine gate_dst (N:=28) rfl ?_);(try (refine gate_guard (by rfl) ?_;dsimp only));refine Kd.N_lit k52 _ 52 ?hg (N':=28) ?hd (xs:=([]:List (S52))) (inner:=[]) (ok:=(fun k_=>some k_≠(v133:Value).ownBlock)) (okp:=(fun k_=>some k_≠(v133:Value).ownBlock)) ?hr ?hp (fun _ hk=>hk) ((show ∀ k_,w9.heap.size≤k_→(fun k_=>some k_≠(v133:Value).ownBlock) k_ from fun k_ hk=>Kd.fresh' (Kd.N_lt (by (with_reducible repeat (first|apply Kd.N_alloc|apply Kd.N_drewN|apply Kd.N_drew));exact HO134.out)) k_ hk) _ (Nat.le_refl _)) (Below.refl _ _) (Nat.le_refl _) (by simp) ?_;(case hd=>rfl);(case hg=>rfl);(case hr=>first|(go_simp;done)|(go_simp;rfl));(case hp=>exact (Reps.none _ _));intro v136 w10 ho11 hb hg_ hnew_;clear hg_ hnew_;(first|rw [← Ny135.out] at ho11|(simp only [Int.reduceToNat] at ho11;rw [← Ny135.out] at ho11));have n0_:=Aside0.mk (Kd.N_elder' (by (with_reducible repeat (first|apply Kd.N_alloc|apply Kd.N_drewN|apply Kd.N_drew));exact HO134.out) (by first|exact Kd.N_base ho11|exact Kd.S_base ho11) hb);have n1_:=Aside0.mk (Kd.N_lower ho11 (below_size bel));have n2_:=Aside0.mk (below_step bel hb);clear HO134;clear HB;have HO134:=n0_;have HO137:=n1_;have HB:=n2_;clear n0_ n1_ n2_;clear hb ho11;obtain ⟨Ao13,co13,eo13⟩:=Kd.N_slice HO134.out;subst eo13)|((with_reducible refine gate_builtin (b:=.append) (xs:=#[.tmp 28,.tmp 29]) rfl ?_);(try (refine gate_guard (by rfl) ?_;dsimp only));at_builtin;refine Kd.N_append_rows k52 (w0:=w) w.heap.size rfl (.tmp 28) (.tmp 29) 41 52 (.agg #[(.int .i64 0),(.int .i64 0),(.slice none 0 0)]) 40 rfl Try.underlying41 info52 rfl (by decide) (by omega) v136 y135 t132 _ _ _ (fun _=>True) (fun k_=>((fun _=>True)) k_∧some k_≠(v136:Value).ownBlock) rfl rfl ?aO ?aR (fun _ hk=>hk) ?aF ?aB ?aS ?aL ?_;(case aR=>exact (by skip;exact Kd.N_F (Kd.N_mono (ok':=(fun k_=>((fun _=>True)) k_∧some k_≠(v136:Value).ownBlock)) (HO134.out) (fun k_ hk=>⟨trivial,hk.2⟩))));(case aB=>exact bel);(case aF=>exact (fun _ _=>trivial));(case aO=>exact (by (with_reducible repeat (first|apply Kd.N_alloc|apply Kd.N_drewN|apply Kd.N_drew));exact Kd.N_mono HO137.out (fun _ hk=>trivial)));(case aS=>exact (below_size bel));(case aL=>have:=LMc5.out;omega);intro v139 w12 ho hb hg hat;rw [← Ny138.out] at ho;have n0_:=Aside0.mk (Kd.N_afterv (ok:=(fun _=>True)) (by (with_reducible repeat (first|apply Kd.N_alloc|apply Kd.N_drewN|apply Kd.N_drew));exact HO134.out) hg hat);have n1_:=Aside0.mk (hb);have n2_:=Aside0.mk (ho);clear HO134;clear HB;clear HO137;have HO134:=n0_;have HB:=n1_;have HO140:=n2_;clear n0_ n1_ n2_;clear ho hb hg hat)|((with_reducible refine gate_callee (f:=20) rfl ?_);refine goesL_ (some 33) rfl rfl Try.func20 (by kernel_rfl) rfl #[.slice A0 l0.length c0,.slice A2 l2.length c2] rfl (by (try simp only [List.map_toArray,List.map_cons,List.map_nil]);first|done|rfl|(simp only [List.length_drop,List.length_take];rfl)) ?_;(with_reducible refine (r04_Diff.calls _ _ l0 _ _ l2 t141 _ ?side1 ?side2 ?side3 ?side4 A6.out).mono ?_);(case side1=>repeat (first|exact (Kd.C_below HR0.out HB.out)|(with_reducible refine Kd.C_alloc ?_ _)|(with_reducible refine Kd.C_drewN ?_ _)|(with_reducible refine Kd.C_drew ?_)));(case side2=>exact HC0.out);(case side3=>repeat (first|exact (Kd.C_below HR2.out HB.out)|(with_reducible refine Kd.C_alloc ?_ _)|(with_reducible refine Kd.C_drewN ?_ _)|(with_reducible refine Kd.C_drew ?_)));(case side4=>exact HC2.out);rintro e w14 ⟨v142,rfl,ho0,hb⟩;refine ⟨_,rfl,?_⟩;have n0_:=Aside0.mk (Kd.N_elder' (by (with_reducible repeat (first|apply Kd.N_alloc|apply Kd.N_drewN|apply Kd.N_drew));exact HO134.out) (by first|exact Kd.N_base ho0|exact Kd.S_base ho0) hb);have n1_:=Aside0.mk (Kd.N_elder' (by (with_reducible repeat (first|apply Kd.N_alloc|apply Kd.N_drewN|apply Kd.N_drew));exact HO140.out) (by first|exact Kd.N_base ho0|exact Kd.S_base ho0) hb);have n2_:=Aside0.mk (Kd.N_lower (Kd.N_mono (ok':=fun k_=>some k_≠(.slice Ao13 t132.length co13:Value).ownBlock∧some k_≠(v139:Value).ownBlock) (Kd.S_N (Kd.S_bound ho0)) (fun k_ hk_=>⟨(Kd.fresh' (Kd.N_lt (by (with_reducible repeat (first|apply Kd.N_alloc|apply Kd.N_drewN|apply Kd.N_drew));exact HO134.out)) k_ hk_.2.1),(Kd.fresh' (Kd.N_lt (by (with_reducible repeat (first|apply Kd.N_alloc|apply Kd.N_drewN|apply Kd.N_drew));exact HO140.out)) k_ hk_.2.1)⟩)) (below_size bel));have n3_:=Aside0.mk (below_step bel hb);clear HO134;clear HO140;clear HB;have HO134:=n0_;have HO140:=n1_;have HO143:=n2_;have HB:=n3_;clear n0_ n1_ n2_ n3_;(try clear hb);(try clear hb2);(try clear hk);(try clear hi);(try clear ho0);obtain ⟨Ao16,co16,eo16⟩:=Kd.N_slice HO143.out;subst eo16)|((with_reducible refine gate_builtin (b:=.append) (xs:=#[.tmp 30,.tmp 33]) rfl ?_);(try (refine gate_guard (by rfl) ?_;dsimp only));at_builtin;refine Kd.N_append_rows k52 (w0:=w) w.heap.size rfl (.tmp 30) (.tmp 33) 41 52 (.agg #[(.int .i64 0),(.int .i64 0),(.slice none 0 0)]) 40 rfl Try.underlying41 info52 rfl (by decide) (by omega) v139 y138 t141 _ _ _ (fun _=>True) (fun k_=>((fun _=>True)) k_∧some k_≠(v139:Value).ownBlock) rfl rfl ?aO ?aR (fun _ hk=>hk) ?aF ?aB ?aS ?aL ?_;(case aR=>exact (by skip;exact Kd.N_F (Kd.N_mono (ok':=(fun k_=>((fun _=>True)) k_∧some k_≠(v139:Value).ownBlock)) (HO143.out) (fun k_ hk=>⟨trivial,hk.2⟩))));(case aB=>exact bel);(case aF=>exact (fun _ _=>trivial));(case aO=>exact (by (with_reducible repeat (first|apply Kd.N_alloc|apply Kd.N_drewN|apply Kd.N_drew));exact Kd.N_mono HO140.out (fun _ hk=>trivial)));(case aS=>exact (below_size bel));(case aL=>have:=LMc7.out;omega);intro v145 w15 ho hb hg hat;rw [← Ny144.out] at ho;have n0_:=Aside0.mk (Kd.N_afterv (ok:=(fun k_=>some k_≠(.slice Ao16 t141.length co16:Value).ownBlock)) (by (with_reducible repeat (first|apply Kd.N_alloc|apply Kd.N_drewN|apply Kd.N_drew));exact Kd.N_mono HO134.out (fun _ hk=>⟨hk.2,hk.1.2⟩)) hg hat);have n1_:=Aside0.mk (Kd.N_afterv (ok:=(fun k_=>some k_≠(.slice Ao13 t132.length co13:Value).ownBlock)) (by (with_reducible repeat (first|apply Kd.N_alloc|apply Kd.N_drewN|apply Kd.N_drew));exact HO143.out) hg hat);have n2_:=Aside0.mk (hb);have n3_:=Aside0.mk (ho);clear HO134;clear HO143;clear HB;clear HO140;have HO134:=n0_;have HO143:=n1_;have HB:=n2_;have HO146:=n3_;clear n0_ n1_ n2_ n3_;clear ho hb hg hat;obtain ⟨Ao17,co17,eo17⟩:=Kd.N_slice HO146.out;subst eo17)|((with_reducible refine gate_callee (f:=21) rfl ?_);refine goesL_ (some 36) rfl rfl Try.func21 (by kernel_rfl) rfl #[.slice Ao17 y144.length co17] rfl (by (try simp only [List.map_toArray,List.map_cons,List.map_nil]);first|done|rfl|(simp only [List.length_drop,List.length_take];rfl)) ?_;(with_reducible refine (r08_marks.calls k _ _ y144 t147 _ ?side1 ?side2 A8.out).mono ?_);(case side1=>repeat (first|exact (Kd.N_reads' HO146.out).2.2|(with_reducible refine Kd.C_alloc ?_ _)|(with_reducible refine Kd.C_drewN ?_ _)|(with_reducible refine Kd.C_drew ?_)));(case side2=>exact (Kd.N_reads' HO146.out).2.1);rintro e w18 ⟨v148,rfl,ho0,hb⟩;refine ⟨_,rfl,?_⟩;have n0_:=Aside0.mk (Kd.N_elder' (by (with_reducible repeat (first|apply Kd.N_alloc|apply Kd.N_drewN|apply Kd.N_drew));exact HO134.out) (Kd.R_base ho0) hb);have n1_:=Aside0.mk (Kd.N_elder' (by (with_reducible repeat (first|apply Kd.N_alloc|apply Kd.N_drewN|apply Kd.N_drew));exact HO143.out) (Kd.R_base ho0) hb);have n2_:=Aside0.mk (Kd.N_elder' (by (with_reducible repeat (first|apply Kd.N_alloc|apply Kd.N_drewN|apply Kd.N_drew));exact HO146.out) (Kd.R_base ho0) hb);have n3_:=Aside0.mk (Kd.R_lower ho0 (below_size bel));have n4_:=Aside0.mk (below_step bel hb);clear HO134;clear HO143;clear HO146;clear HB;have HO134:=n0_;have HO143:=n1_;have HO146:=n2_;have HO149:=n3_;have HB:=n4_;clear n0_ n1_ n2_ n3_ n4_;(try clear hb);(try clear hb2);(try clear hk);(try clear hi);(try clear ho0)))
 go_loopg [10,11,12,13] k (fun kq v10 v11 v12 v13 w'=>∃ (x8_1:List (S52)) (x10_1:List (S32)) (x11_1:Int) (x12_1:Int) (x13_1:Int),v11=.int .i64 x11_1∧v12=.int .i64 x12_1∧v13=.int .i64 x13_1∧Aside0 (r08_Regions.l0 kq l0 l1 l2 t132 x8_1 t147 x10_1 x11_1 x12_1 x13_1=some r)∧Aside0 (kq≤k)∧Aside0 (Kd.N k52 52 w' w.heap.size (fun k_=>some k_≠((.slice Ao17 y144.length co17):Value).ownBlock∧some k_≠(v148:Value).ownBlock∧some k_≠(v10:Value).ownBlock) (.slice Ao13 t132.length co13) t132)∧Aside0 (Kd.N k52 52 w' w.heap.size (fun k_=>some k_≠(v148:Value).ownBlock∧some k_≠(v10:Value).ownBlock) (.slice Ao17 y144.length co17) x8_1)∧Aside0 (Kd.R (Kd.int .i64) 3 w' w.heap.size (fun _=>True) v148 t147)∧Aside0 (Kd.R k32 32 w' w.heap.size (fun _=>True) v10 x10_1)∧Aside0 (Below w.heap.size w w'))
 case atStart=>exact ⟨(y144),(([]:List (S32))),(0),(0),(0),rx,rx,rx,H',⟨Nat.le_refl _⟩,⟨by (with_reducible repeat (first|apply Kd.N_alloc|apply Kd.N_drewN|apply Kd.N_drew));exact Kd.N_mono HO134.out (fun _ hk=>⟨hk.1.2,⟨hk.2,(by simp [Value.ownBlock])⟩⟩)⟩,⟨by (with_reducible repeat (first|apply Kd.N_alloc|apply Kd.N_drewN|apply Kd.N_drew));exact Kd.N_mono HO146.out (fun _ hk=>⟨hk.2,(by simp [Value.ownBlock])⟩)⟩,⟨by (with_reducible repeat (first|apply Kd.R_alloc|apply Kd.R_drewN|apply Kd.R_drew));exact HO149.out⟩,⟨by first|exact Kd.R_nil _ _ _ _ _|exact Kd.N_nil _ _ _ _ _|exact Kd.V_nil _ _ _ _ _|exact Kd.Q_nil _ _ _ _ _|exact Kd.S_nil _ _ _ _ _⟩,⟨by repeat (first|(with_reducible first|exact HB.out|apply below_alloc|apply pw_below_drewN|apply below_drew1)|exact HB.out)⟩⟩
 case round =>
  clear H'
  obtain ⟨x8_1,x10_1,x11_1,x12_1,x13_1,rfl,rfl,rfl,HA,HK1,HO_7,HO_8,HO_9,HO_10,HB⟩:=hrel
  have hl8_1:=(Kd.N_reads' HO_8.out).1
  rw [hl8_1] at HO_8
  (try simp only [hl8_1])
  (try simp only [hl8_1] at HO_7)
  (try simp only [hl8_1] at HO_9)
  (try simp only [hl8_1] at HO_10)
  cases gk with
  | zero=>exact absurd HA.out (by simp [r08_Regions.l0])
  | succ k1 =>
   have H:=HA.out
   clear HA
   simp only [r08_Regions.l0] at H
   by_cases c19:x11_1≤(l0.length:Int)
   rotate_left
   ·skip
    rw [if_neg c19] at H
    have c19b0:decide (x11_1≤(l0.length:Int))=false:=decide_eq_false c19
    clear c19
    obtain rfl:=Option.some.inj H
    go_wp2
    go_ret
    exact ⟨_,by first|rfl|(simp [errW_none,errW_some]<;>rfl)|(simp [*,errW_none,errW_some]<;>rfl),by (with_reducible repeat (first|apply Kd.R_alloc|apply Kd.R_drewN|apply Kd.R_drew));exact HO_10.out,bel⟩
   rw [if_pos c19] at H
   have c19b0:decide (x11_1≤(l0.length:Int))=true:=decide_eq_true c19
   clear c19
   have H':=Aside0.mk H
   clear H
   go_wp2
   go_loopg [14,15,16] k1 (fun kq v14 v15 v16 w'=>∃ (x14_2:Int) (x15_2:Int) (x16_2:Int),v14=.int .i64 x14_2∧v15=.int .i64 x15_2∧v16=.int .i64 x16_2∧Aside0 (r08_Regions.l1 kq l0 l1 l2 t132 x8_1 t147 x10_1 x11_1 x12_1 x13_1 x14_2 x15_2 x16_2=some r)∧Aside0 (kq≤k1)∧Aside0 (Kd.N k52 52 w' w.heap.size (fun k_=>some k_≠((.slice Ao17 x8_1.length co17):Value).ownBlock∧some k_≠(v148:Value).ownBlock∧some k_≠(u10:Value).ownBlock) (.slice Ao13 t132.length co13) t132)∧Aside0 (Kd.N k52 52 w' w.heap.size (fun k_=>some k_≠(v148:Value).ownBlock∧some k_≠(u10:Value).ownBlock) (.slice Ao17 x8_1.length co17) x8_1)∧Aside0 (Kd.R (Kd.int .i64) 3 w' w.heap.size (fun _=>True) v148 t147)∧Aside0 (Kd.R k32 32 w' w.heap.size (fun _=>True) u10 x10_1)∧Aside0 (Below w.heap.size w w'))
   case atStart=>exact ⟨((-1)),(wrap64 ((l0.length:Int)+1)),(0),rx,rx,rx,H',⟨Nat.le_refl _⟩,⟨by (try simp only [hl8_1]);(with_reducible repeat (first|apply Kd.N_alloc|apply Kd.N_drewN|apply Kd.N_drew));exact HO_7.out⟩,⟨by (try simp only [hl8_1]);(with_reducible repeat (first|apply Kd.N_alloc|apply Kd.N_drewN|apply Kd.N_drew));exact HO_8.out⟩,⟨by (try simp only [hl8_1]);(with_reducible repeat (first|apply Kd.R_alloc|apply Kd.R_drewN|apply Kd.R_drew));exact HO_9.out⟩,⟨by (try simp only [hl8_1]);(with_reducible repeat (first|apply Kd.R_alloc|apply Kd.R_drewN|apply Kd.R_drew));exact HO_10.out⟩,⟨by repeat (first|(with_reducible first|exact HB.out|apply below_alloc|apply pw_below_drewN|apply below_drew1)|exact HB.out)⟩⟩
   case round =>
    rename_i qa0 x1 qa2 qa3 qa4 _ _ _ _ _ _ _ _ _ _ _ _ _ _ _ _ _ _ _ _ _ _ _ _ _ _ _ _ _ _ _ qa5 qa6 qa7 qa8 qa9 qa10 qa11 qa12 qa13 qa14
    clear x1
    revert k A0 c0 l0 A1 c1 l1 A2 c2 l2 r w hu30 hu32 HR0 HC0 HR1 HC1 HR2 HC2 t132 A4 y135 Ny135 LMc5 y138 Ny138 t141 A6 LMc7 y144 Ny144 t147 A8 qa0 w9 v136 w10 Ao13 co13 v139 w12 w14 Ao16 co16 w15 Ao17 co17 w18 v148 HO134 HO143 HO146 HO149 qa2 qa3 qa4 u6 u10 u17 u18 u19 u20 u21 u22 u23 u24 u37 u38 u39 u40 u41 u42 u43 u72 u73 u74 u75 u76 u77 u78 u79 u80 u81 u82 u83 u84 u85 u86 u87 u88 u89 u90 u91 u92 u93 u94 u95 u96 u97 u98 u99 u100 u101 u102 u103 u104 u105 u106 u107 u108 u109 u110 u111 u112 u113 u114 u115 u116 u117 u118 u119 u120 u121 u122 u123 u124 u125 u126 u127 u128 u129 u130 u131 u132 u133 u134 u135 u136 u137 u138 u139 u140 u141 u142 u143 u144 u145 u146 u147 u148 u149 u150 u151 u152 u153 u154 u155 u156 u157 u158 u159 u160 u161 u162 u163 u164 u165 u166 u167 u168 u169 u170 u171 u172 u173 u174 u175 u176 u177 u178 u179 u180 u181 u182 u183 u184 u185 u186 u187 u188 u189 u190 u191 u192 u193 u194 u195 u196 u197 u198 u199 u200 u201 u202 u203 u204 u205 u206 u207 u208 u209 u210 u211 u212 u213 u214 u215 u216 u217 u218 u219 u220 u221 u222 u223 u224 u225 u226 u227 u228 u229 u230 u231 u232 u233 u234 u235 u236 u237 u238 u239 u240 u241 u242 u243 u244 u245 u246 u247 u248 u249 u250 u251 u252 u253 u254 u255 u256 u257 u258 u259 u260 u261 u262 u263 u264 u265 u266 u267 u268 u269 u270 u271 u272 u273 u274 u275 u276 qa5 qa6 qa7 x8_1 x10_1 x11_1 x12_1 x13_1 HO_8 HO_9 HO_10 HB hl8_1 HO_7 k1 qa8 HK1 c19b0 H' qa9 qa10 gk wr u14 u15 u16 u44 u45 u46 u47 u48 u49 u50 u51 u52 u53 u54 u55 u56 u57 u58 u59 u60 u61 u62 u63 u64 u65 u66 u67 u68 u69 u70 u71 hrel qa11 qa12 qa13 qa14
    exact g122.out
 ⟩
end Go.Proofs.Ytnmphfelebkaiaa.Pr
-- shrunk
