import Derived.Test.YtnmphfelebkaiaaD6p1985
set_option linter.unusedVariables false
set_option linter.unusedSimpArgs false
namespace Go.Proofs.Ytnmphfelebkaiaa.Pr
open Go.RowKit Go.Proofs.YtnmphfelebkaiaaW.PrintWords Go.Proofs.YtnmphfelebkaiaaW.PrintLast Go.Proofs.YtnmphfelebkaiaaW.PrintMore
attribute [local go_sem] max2_int min2_int max_two min_two max_three min_three max_four min_four

set_option maxHeartbeats 0 in
set_option maxRecDepth 100000 in
theorem r08_Regions.calls.q2093:(r08_Regions.calls.p1985).1:=by
 intro _ _ _ l0 _ _ l1 _ _ l2 r w _ _ _ _ _ _ _ _ t132 _ _ _ _ _ _ _ _ _ _ _ t147 _ _ _ _ _ Ao13 co13 _ _ _ _ _ _ Ao17 co17 _ v148 _ _ _ _ _ _ _ _ _ _ _ _ _ _ _ _ _ _ _ _ _ _ _ _ _ _ _ _ _ _ _ _ _ _ _ _ _ _ _ _ _ _ _ _ _ _ _ _ _ _ _ _ _ _ _ _ _ _ _ _ _ _ _ _ _ _ _ _ _ _ _ _ _ _ _ _ _ _ _ _ _ _ _ _ _ _ _ _ _ _ _ _ _ _ _ _ _ _ _ _ _ _ _ _ _ _ _ _ _ _ _ _ _ _ _ _ _ _ _ _ _ _ _ _ _ _ _ _ _ _ _ _ _ _ _ _ _ _ _ _ _ _ _ _ _ _ _ _ _ _ _ _ _ _ _ _ _ _ _ _ _ _ _ _ _ _ _ _ _ _ _ _ _ _ _ _ _ _ _ _ _ _ _ _ _ _ _ _ _ _ _ _ _ _ _ _ _ _ _ _ _ _ _ _ _ _ _ _ _ _ _ _ _ _ _ _ _ _ _ _ _ _ _ _ _ x8_1 _ _ _ _ hl8_1 _ _ HK1 _ _ _ _ _ x14_2 x15_2 _ _ _ HK2 _ _ _ _ HJ23 u10 _ _ _ _ _ _ _ _ _ _ _ _ _ _ _ _ _ _ _ _ _ _ _ _ _ _ _ _ _ _ _ _ _ _ _ _ _ _ _ _ _ _ _ _ _ _ _ _ _ _ _ _ _ _ _ _ _ _ _ _ _ _ _ _ _ _ _ _ _ _ _ _ _ _ _ _ _ _ _ _ _ _ _ _ _ _ _ _ _ _ _ _ _ _ _ _ _ _ _ _ _ _ _ _ _ _ _ _ _ _ _ _ _ _ _ _ _ _ _ _ _ _ _ _ _ _ _ _ _ _ _ _ _ _ _ _ _ _ _ _ _ _ _ _ _ _ _ _ _ _ _ _ _ _ _ _ _ _ _ _ _ _ _ x10_25 x12_25 x13_25 _ HJ25 _ gb156 _ _ GE156 _ _ _ _ _ _ _ _ _ _ _ _ _ _ _ wr _ _ _ x19_5 _ _ _ x157004_5 x157006_5 _ _ HK5 _ _ _ _ _ _ _ _ _ _ _ _ _ _ _ _ _ _ _ _ _ _ _ _ _ _ _ _ _ _ _ _ _ _ _ _ _ _ _ _ _ _ _ _ HT_ HW_ _ _ hHeld _ _ _ _ _ _ _ _ _ _ _ _ _ _ _ _ HJ60 _ _ HO_7 HO_8 HO_9 HO_10 BK156 HB _ HJ70 HC74 _ _ wc _ _ _ _ _ _ _ _ _ _ _ _ _ _ _ _ _ _ _ _ _ _ _ _ _ _ _ _ _ _ _ _ _ _ _ _ _ _ _ _ _ _ _ _ _ _ _ _ _ _ _ _ _ _ _ _ _ _ _ _ _ _ _ _ _ _ _ _ _ _ _ _ _ _ _ _ _ _ _ _ _ _ _ _ _ _ _ _ _ _ _ _ _ _ _ _ _ _ _ _ _ _ _ _ _ _ _ _ _ _ _ _ _ _ _ _ _ _ _ _ _ _ _ _ _ _ _ _ _ _ _ _ _ _ _ _ _ _ _ _ _ _ _ _ _ _ _ _ _ _ _ _ _ _ _ _ _ _ _ _ _ _ _ _ _ _ _ _ _ _ _ _ _ _ _ _ _ _ _ _ _ _ _ _ _ _ _ _ _ _ _ _ _ _ _ _ _ _ _ _ _ _ _ _ _ _ _ _ _ _ _ _ _ _ _ _ _ _ _ _ _ _ _ _ _ _ _ _ _ _ _ _ _ _ _ _ _ _ _ _ hcut
 clear HC74
 obtain ⟨kq,x157000_73,HA,HJ73,HO_7,HO_8,HO_9,HO_10,BK156,HB⟩:=hcut
 cases kq with
 | zero=>exact absurd HA.out (by simp [r08_Regions.j7])
 | succ kj73 =>
  have H:=HA.out
  clear HA
  simp only [r08_Regions.j7] at H
  by_cases c77:x10_25.length<2513169434916
  rotate_left
  ·rw [if_neg c77] at H
   exact absurd H (by simp)
  rw [if_pos c77] at H
  have LMc77:=Aside0.mk c77
  clear c77
  obtain ⟨y168,hy168⟩:∃ y_:List (S32),y_=(x10_25++[(⟨x157000_73,(⟨x15_2,(wrap64 (x19_5 - x15_2))⟩:S30),(⟨x12_25,(wrap64 ((wrap64 (x157004_5+x19_5)) - x15_2))⟩:S30),(⟨x13_25,(wrap64 ((wrap64 (x157006_5+x19_5)) - x15_2))⟩:S30)⟩:S32)]):=⟨_,rfl⟩
  replace H:(r08_Regions.l3 kj73 l0 l1 l2 t132 x8_1 t147 y168 x19_5 (wrap64 (x12_25+(wrap64 ((wrap64 (x157004_5+x19_5)) - x15_2)))) (wrap64 (x13_25+(wrap64 ((wrap64 (x157006_5+x19_5)) - x15_2)))) x14_2 0)=some r:=by first|(rw [hy168];with_reducible exact H)|(have H2_:=(Option.bind_some _ _).symm.trans H;rw [hy168];with_reducible exact H2_)|(have H2_:=(Option.bind_some _ _).symm.trans H;with_reducible exact H2_)|with_reducible exact H|(rw [hy168];exact H)|exact H
  have Ny168:=Aside0.mk hy168
  clear hy168
  have H':=Aside0.mk H
  clear H
  have hcz78_0:wc.cell? ⟨gb156,0,none⟩=some (.int .i64 x157000_73):=(blk_cell BK156.out 0).trans rfl
  have hcz78_1:wc.cell? ⟨gb156,1,none⟩=some (.int .i64 x15_2):=(blk_cell BK156.out 1).trans rfl
  have hcz78_2:wc.cell? ⟨gb156,2,none⟩=some (.int .i64 (wrap64 (x19_5 - x15_2))):=(blk_cell BK156.out 2).trans rfl
  have hcz78_3:wc.cell? ⟨gb156,3,none⟩=some (.int .i64 x12_25):=(blk_cell BK156.out 3).trans rfl
  have hcz78_4:wc.cell? ⟨gb156,4,none⟩=some (.int .i64 (wrap64 ((wrap64 (x157004_5+x19_5)) - x15_2))):=(blk_cell BK156.out 4).trans rfl
  have hcz78_5:wc.cell? ⟨gb156,5,none⟩=some (.int .i64 x13_25):=(blk_cell BK156.out 5).trans rfl
  have hcz78_6:wc.cell? ⟨gb156,6,none⟩=some (.int .i64 (wrap64 ((wrap64 (x157006_5+x19_5)) - x15_2))):=(blk_cell BK156.out 6).trans rfl
  have hfz78_0:=blk_frozen BK156.out 0
  have hfz78_1:=blk_frozen BK156.out 1
  have hfz78_2:=blk_frozen BK156.out 2
  have hfz78_3:=blk_frozen BK156.out 3
  have hfz78_4:=blk_frozen BK156.out 4
  have hfz78_5:=blk_frozen BK156.out 5
  have hfz78_6:=blk_frozen BK156.out 6
  go_wp2_with (first|((with_reducible refine gate_builtin (b:=.append) (xs:=#[.tmp 234,.tmp 236]) rfl ?_);(try (refine gate_guard (by rfl) ?_;dsimp only));at_builtin;refine Kd.R_append k32 (w0:=w) w.heap.size rfl (.tmp 234) (.tmp 236) 25 32 (.agg #[(.int .i64 0),(.int .i64 0),(.int .i64 0),(.int .i64 0),(.int .i64 0),(.int .i64 0),(.int .i64 0)]) 56 rfl Try.underlying25 info32 rfl (by decide) (by omega) u10 x10_25 (⟨x157000_73,(⟨x15_2,(wrap64 (x19_5 - x15_2))⟩:S30),(⟨x12_25,(wrap64 ((wrap64 (x157004_5+x19_5)) - x15_2))⟩:S30),(⟨x13_25,(wrap64 ((wrap64 (x157006_5+x19_5)) - x15_2))⟩:S30)⟩:S32) [.int .i64 x157000_73,.int .i64 x15_2,.int .i64 (wrap64 (x19_5 - x15_2)),.int .i64 x12_25,.int .i64 (wrap64 ((wrap64 (x157004_5+x19_5)) - x15_2)),.int .i64 x13_25,.int .i64 (wrap64 ((wrap64 (x157006_5+x19_5)) - x15_2))] (fun k_=>k_≠gb156) (fun _=>False) rfl rfl ?aP (fun _ hk=>hk.elim) ?aF ?aO ?aB ?aS ?aL ?_;(case aP=>exact k32_mkM _ _ _ (⟨x157000_73,(⟨x15_2,(wrap64 (x19_5 - x15_2))⟩:S30),(⟨x12_25,(wrap64 ((wrap64 (x157004_5+x19_5)) - x15_2))⟩:S30),(⟨x13_25,(wrap64 ((wrap64 (x157006_5+x19_5)) - x15_2))⟩:S30)⟩:S32));(case aB=>exact bel);(case aF=>exact (fun k_ hk=>Kd.freshB (g:=gb156) (o:=.cells #[.int .i64 x157000_73,.int .i64 x15_2,.int .i64 (wrap64 (x19_5 - x15_2)),.int .i64 x12_25,.int .i64 (wrap64 ((wrap64 (x157004_5+x19_5)) - x15_2)),.int .i64 x13_25,.int .i64 (wrap64 ((wrap64 (x157006_5+x19_5)) - x15_2))] 32 (0,0)) (by (with_reducible repeat (first|refine blk_drewN ?_ _|refine blk_drew ?_|refine blk_alloc ?_ _));exact BK156.out) k_ hk));(case aO=>exact (by (with_reducible repeat (first|apply Kd.R_alloc|apply Kd.R_drewN|apply Kd.R_drew));exact HO_10.out));(case aS=>exact (below_size bel));(case aL=>have:=LMc77.out;omega);intro v169 w79 ho hb hg hat;rw [← Ny168.out] at ho;have n0_:=Aside0.mk (Kd.N_afterv (ok:=(fun k_=>some k_≠(.slice Ao17 x8_1.length co17:Value).ownBlock∧some k_≠(v148:Value).ownBlock∧k_≠gb156)) (by (with_reducible repeat (first|apply Kd.N_alloc|apply Kd.N_drewN|apply Kd.N_drew));exact Kd.N_mono HO_7.out (fun _ hk=>⟨⟨hk.1,⟨hk.2.1,hk.2.2.2⟩⟩,hk.2.2.1⟩)) hg hat);have n1_:=Aside0.mk (Kd.N_afterv (ok:=(fun k_=>some k_≠(v148:Value).ownBlock∧k_≠gb156)) (by (with_reducible repeat (first|apply Kd.N_alloc|apply Kd.N_drewN|apply Kd.N_drew));exact Kd.N_mono HO_8.out (fun _ hk=>⟨⟨hk.1,hk.2.2⟩,hk.2.1⟩)) hg hat);have n2_:=Aside0.mk (Kd.R_over' (by (with_reducible repeat (first|apply Kd.R_alloc|apply Kd.R_drewN|apply Kd.R_drew));exact HO_9.out) (Kd.R_typed (by (with_reducible repeat (first|apply Kd.R_alloc|apply Kd.R_drewN|apply Kd.R_drew));exact HO_10.out)) (by decide) hg);have n3_:=Aside0.mk (blk_grown (g:=gb156) (o:=.cells #[.int .i64 x157000_73,.int .i64 x15_2,.int .i64 (wrap64 (x19_5 - x15_2)),.int .i64 x12_25,.int .i64 (wrap64 ((wrap64 (x157004_5+x19_5)) - x15_2)),.int .i64 x13_25,.int .i64 (wrap64 ((wrap64 (x157006_5+x19_5)) - x15_2))] 32 (0,0)) (by (with_reducible repeat (first|refine blk_drewN ?_ _|refine blk_drew ?_|refine blk_alloc ?_ _));exact BK156.out) hg (Kd.R_away HO_10.out (fun _ hk=>hk)));have n4_:=Aside0.mk (hb);have n5_:=Aside0.mk (ho);clear HO_7;clear HO_8;clear HO_9;clear BK156;clear HB;clear HO_10;have HO_7:=n0_;have HO_8:=n1_;have HO_9:=n2_;have BK156:=n3_;have HB:=n4_;have HO170:=n5_;clear n0_ n1_ n2_ n3_ n4_ n5_;clear ho hb hg hat;have hcz80_0:w79.cell? ⟨gb156,0,none⟩=some (.int .i64 x157000_73):=(blk_cell BK156.out 0).trans rfl;have hcz80_1:w79.cell? ⟨gb156,1,none⟩=some (.int .i64 x15_2):=(blk_cell BK156.out 1).trans rfl;have hcz80_2:w79.cell? ⟨gb156,2,none⟩=some (.int .i64 (wrap64 (x19_5 - x15_2))):=(blk_cell BK156.out 2).trans rfl;have hcz80_3:w79.cell? ⟨gb156,3,none⟩=some (.int .i64 x12_25):=(blk_cell BK156.out 3).trans rfl;have hcz80_4:w79.cell? ⟨gb156,4,none⟩=some (.int .i64 (wrap64 ((wrap64 (x157004_5+x19_5)) - x15_2))):=(blk_cell BK156.out 4).trans rfl;have hcz80_5:w79.cell? ⟨gb156,5,none⟩=some (.int .i64 x13_25):=(blk_cell BK156.out 5).trans rfl;have hcz80_6:w79.cell? ⟨gb156,6,none⟩=some (.int .i64 (wrap64 ((wrap64 (x157006_5+x19_5)) - x15_2))):=(blk_cell BK156.out 6).trans rfl;have hfz80_0:=blk_frozen BK156.out 0;have hfz80_1:=blk_frozen BK156.out 1;have hfz80_2:=blk_frozen BK156.out 2;have hfz80_3:=blk_frozen BK156.out 3;have hfz80_4:=blk_frozen BK156.out 4;have hfz80_5:=blk_frozen BK156.out 5;have hfz80_6:=blk_frozen BK156.out 6))
  go_loopg [24] kj73 (fun kq v24 w'=>∃ (x8_9:List (S52)) (x24_9:Int),v24=.int .i64 x24_9∧Aside0 (r08_Regions.l3 kq l0 l1 l2 t132 x8_9 t147 y168 x19_5 (wrap64 (x12_25+(wrap64 ((wrap64 (x157004_5+x19_5)) - x15_2)))) (wrap64 (x13_25+(wrap64 ((wrap64 (x157006_5+x19_5)) - x15_2)))) x14_2 x24_9=some r)∧Aside0 (kq≤kj73)∧Aside0 (Kd.N k52 52 w' w.heap.size (fun k_=>some k_≠((.slice Ao17 x8_1.length co17):Value).ownBlock∧some k_≠(v148:Value).ownBlock∧some k_≠(v169:Value).ownBlock∧k_≠gb156) (.slice Ao13 t132.length co13) t132)∧Aside0 (Kd.N k52 52 w' w.heap.size (fun k_=>some k_≠(v148:Value).ownBlock∧some k_≠(v169:Value).ownBlock∧k_≠gb156) (.slice Ao17 x8_1.length co17) x8_9)∧Aside0 (Kd.R (Kd.int .i64) 3 w' w.heap.size (fun _=>True) v148 t147)∧Aside0 (Kd.R k32 32 w' w.heap.size (fun k_=>k_≠gb156) v169 y168)∧Aside0 (w'.heap[gb156]?=some (.cells #[.int .i64 x157000_73,.int .i64 x15_2,.int .i64 (wrap64 (x19_5 - x15_2)),.int .i64 x12_25,.int .i64 (wrap64 ((wrap64 (x157004_5+x19_5)) - x15_2)),.int .i64 x13_25,.int .i64 (wrap64 ((wrap64 (x157006_5+x19_5)) - x15_2))] 32 (0,0)))∧Aside0 (Below w.heap.size w w'))
  case atStart=>exact ⟨(x8_1),(0),rx,H',⟨Nat.le_refl _⟩,⟨by (try simp only [hl8_1]);(with_reducible repeat (first|apply Kd.N_alloc|apply Kd.N_drewN|apply Kd.N_drew));exact Kd.N_mono HO_7.out (fun _ hk=>⟨hk.1.1,⟨hk.1.2.1,⟨hk.2,hk.1.2.2⟩⟩⟩)⟩,⟨by (try simp only [hl8_1]);(with_reducible repeat (first|apply Kd.N_alloc|apply Kd.N_drewN|apply Kd.N_drew));exact Kd.N_mono HO_8.out (fun _ hk=>⟨hk.1.1,⟨hk.2,hk.1.2⟩⟩)⟩,⟨by (try simp only [hl8_1]);(with_reducible repeat (first|apply Kd.R_alloc|apply Kd.R_drewN|apply Kd.R_drew));exact HO_9.out⟩,⟨by (try simp only [hl8_1]);(with_reducible repeat (first|apply Kd.R_alloc|apply Kd.R_drewN|apply Kd.R_drew));exact HO170.out⟩,⟨by (try simp only [hl8_1]);(with_reducible repeat (first|refine blk_drewN ?_ _|refine blk_drew ?_|refine blk_alloc ?_ _));exact BK156.out⟩,⟨by repeat (first|(with_reducible first|exact HB.out|apply below_alloc|apply pw_below_drewN|apply below_drew1|refine below_set ?_ GE156.out)|exact HB.out)⟩⟩
  case round =>
   clear H'
   obtain ⟨x8_9,x24_9,rfl,HA,HK9,HO_7,HO_8,HO_9,HO_10,BK156,HB⟩:=hrel
   have hl8_9:=(Kd.N_reads' HO_8.out).1
   rw [hl8_9] at HO_8
   (try simp only [hl8_9])
   (try simp only [hl8_9] at BK156)
   (try simp only [hl8_9] at HO_7)
   (try simp only [hl8_9] at HO_9)
   (try simp only [hl8_9] at HO_10)
   cases gk with
   | zero=>exact absurd HA.out (by simp [r08_Regions.l3])
   | succ k9 =>
    have H:=HA.out
    clear HA
    simp only [r08_Regions.l3] at H
    by_cases c81:x24_9<(x8_9.length:Int)
    rotate_left
    ·rw [if_neg c81] at H
     have c81b0:decide (x24_9<(x8_9.length:Int))=false:=decide_eq_false c81
     clear c81
     by_cases c97:0≤x14_2
     rotate_left
     ·rw [if_neg c97] at H
      exact absurd H (by simp)
     rw [if_pos c97] at H
     have c97b0:decide (0≤x14_2)=true:=decide_eq_true c97
     clear c97
     by_cases c98:x14_2<(x8_9.length:Int)
     rotate_left
     ·rw [if_neg c98] at H
      exact absurd H (by simp)
     skip
     rw [if_pos c98] at H
     have c98b0:decide (x14_2<(x8_9.length:Int))=true:=decide_eq_true c98
     clear c98
     obtain ⟨y174,hy174⟩:∃ y_:List (S52),y_=(x8_9.set (x14_2:Int).toNat (⟨(-1),(rd_T52 x8_9 x14_2).f1,(rd_T52 x8_9 x14_2).f2⟩:S52)):=⟨_,rfl⟩
     replace H:(r08_Regions.l0 k9 l0 l1 l2 t132 y174 t147 y168 x19_5 (wrap64 (x12_25+(wrap64 ((wrap64 (x157004_5+x19_5)) - x15_2)))) (wrap64 (x13_25+(wrap64 ((wrap64 (x157006_5+x19_5)) - x15_2)))))=some r:=by first|(rw [hy174];with_reducible exact H)|(have H2_:=(Option.bind_some _ _).symm.trans H;rw [hy174];with_reducible exact H2_)|(have H2_:=(Option.bind_some _ _).symm.trans H;with_reducible exact H2_)|with_reducible exact H|(rw [hy174];exact H)|exact H
     have Ny174:=Aside0.mk hy174
     clear hy174
     have H':=Aside0.mk H
     clear H
     have p99:0≤(x14_2:Int):=of_decide_eq_true asm
     have q99:(x14_2:Int)<((x8_9.length:Int):Int):=of_decide_eq_true asm
     obtain ⟨go99,co99,eo99,gb99,gl99,cl99,HG99⟩:=Kd.N_form HO_8.out (by omega)
     (first|cases eo99|(injection eo99 with ea_ en_ ec_;(first|subst ea_|(injection ea_ with ea_;subst ea_));subst ec_;clear en_))
     have GB99:=Aside0.mk gb99
     have GG99:=Aside0.mk HG99
     clear gb99 gl99 HG99
     obtain ⟨ce99,hcl99,hM99,hcc99,hfr99⟩:=Kd.N_elem HO_8.out z52 (x14_2:Int) p99 q99
     obtain ⟨ua99_2,uc99_2,rfl,ul99_2,ge99_2⟩:=k52_openF hM99
     have hx99_0:wr.cell? ⟨go99,(x14_2:Int).toNat * 3,none⟩=some (.int .i64 ((rd_T52 x8_9 x14_2).f0)):=hcc99 0 _ rfl
     have hx99_1:wr.cell? ⟨go99,(x14_2:Int).toNat * 3+1,none⟩=some (.int .i64 ((rd_T52 x8_9 x14_2).f1)):=hcc99 1 _ rfl
     have hx99_2:wr.cell? ⟨go99,(x14_2:Int).toNat * 3+2,none⟩=some (.slice ua99_2 ((rd_T52 x8_9 x14_2).f2).length uc99_2):=hcc99 2 _ rfl
     have hf99_0:wr.frozen? ⟨go99,(x14_2:Int).toNat * 3,none⟩=false:=hfr99 0
     have hf99_1:wr.frozen? ⟨go99,(x14_2:Int).toNat * 3+1,none⟩=false:=hfr99 1
     have hf99_2:wr.frozen? ⟨go99,(x14_2:Int).toNat * 3+2,none⟩=false:=hfr99 2
     (try clear hcl99);(try clear hcc99);(try clear hfr99);(try clear hM99)
     replace p99:=eq_true p99
     replace q99:=eq_true q99
     have HX100:=Aside0.mk (show Kd.N k52 52 wr w.heap.size (fun k_=>some k_≠(v148:Value).ownBlock∧some k_≠(v169:Value).ownBlock∧k_≠gb156) (.slice (some ⟨go99,0,none⟩) x8_9.length co17) x8_9 from (by (with_reducible repeat (first|apply Kd.N_alloc|apply Kd.N_drewN|apply Kd.N_drew));exact HO_8.out))
     obtain ⟨ce100,hcl100,hM100,hcc100,hfr100⟩:=Kd.N_elem HX100.out z52 (x14_2:Int) (of_decide_eq_true asm) (by have h_:(x14_2:Int)<((x8_9.length:Int):Int):=of_decide_eq_true asm;first|exact h_|(have e_:=(Kd.N_reads' HO_8.out).1;omega)|simpa using h_)
     obtain ⟨ua100_2,uc100_2,rfl,ul100_2,ge100_2⟩:=k52_openF hM100
     have HP100:=Kd.N_seg HX100.out (x14_2:Int) (of_decide_eq_true asm) (by have h_:(x14_2:Int)<((x8_9.length:Int):Int):=of_decide_eq_true asm;first|exact h_|(have e_:=(Kd.N_reads' HO_8.out).1;omega)|simpa using h_) (seg:=[.int .i64 (-1)]) (j:=0) hcl100 hcc100 (show 1≤3 from by decide) (x':=(⟨(-1),(rd_T52 x8_9 x14_2).f1,(rd_T52 x8_9 x14_2).f2⟩:S52)) (k52_mkF _ _ (⟨(-1),(rd_T52 x8_9 x14_2).f1,(rd_T52 x8_9 x14_2).f2⟩:S52) ul100_2 ge100_2) (fun _ hk=>hk)
     have hx100_0:=hcc100 0 _ rfl
     (try simp only [show (k52).sz=3 from rfl,Nat.mul_one,Nat.add_zero] at hx100_0)
     have hf100_0:=hfr100 0
     (try simp only [show (k52).sz=3 from rfl,Nat.mul_one,Nat.add_zero] at hf100_0)
     (try clear hcl100);(try clear hcc100);(try clear hfr100);(try clear hM100)
     go_wp2_with (first|((with_reducible refine gate_store (t:=3) (p:=276) rfl ?_);refine store_event (t:=3) (p:=276) (v:=?vo_w101) (w1:=(wr.setCell ⟨go99,(x14_2:Int).toNat * 3,none⟩ (.int .i64 (-1)))) ?hg ?ho ?hn ?hr ?_;(case ho=>rfl);(case hg=>rfl);(case hn=>rfl);(case hr=>first|(go_simp;done)|(go_simp;rfl));intro w101 hw;have hg:wr.grownBy w101 (some go99):=(by rw [hw];exact HP100.2);have hp_:Kd.N k52 52 w101 w.heap.size (fun k_=>some k_≠(v148:Value).ownBlock∧some k_≠(v169:Value).ownBlock∧k_≠gb156) (.slice (some ⟨go99,0,none⟩) x8_9.length co17) y174:=(by rw [hw,Ny174.out];exact HP100.1);clear HP100;have n0_:=Aside0.mk (Kd.N_afterv (v:=(.slice (some ⟨go99,0,none⟩) x8_9.length co17)) (v1:=(.slice (some ⟨go99,0,none⟩) x8_9.length co17)) (ok:=(fun k_=>some k_≠(v148:Value).ownBlock∧some k_≠(v169:Value).ownBlock∧k_≠gb156)) (by (with_reducible repeat (first|apply Kd.N_alloc|apply Kd.N_drewN|apply Kd.N_drew));exact Kd.N_mono HO_7.out (fun _ hk=>⟨⟨hk.2.1,⟨hk.2.2.1,hk.2.2.2⟩⟩,hk.1⟩)) hg (.inl rfl));have n1_:=Aside0.mk (hp_);have n2_:=Aside0.mk (Kd.R_over' (v:=(.slice (some ⟨go99,0,none⟩) x8_9.length co17)) (by (with_reducible repeat (first|apply Kd.R_alloc|apply Kd.R_drewN|apply Kd.R_drew));exact HO_9.out) (Kd.N_typed HO_8.out) (by decide) hg);have n3_:=Aside0.mk (Kd.R_over' (v:=(.slice (some ⟨go99,0,none⟩) x8_9.length co17)) (by (with_reducible repeat (first|apply Kd.R_alloc|apply Kd.R_drewN|apply Kd.R_drew));exact HO_10.out) (Kd.N_typed HO_8.out) (by decide) hg);have n4_:=Aside0.mk (blk_grown (g:=gb156) (o:=.cells #[.int .i64 x157000_73,.int .i64 x15_2,.int .i64 (wrap64 (x19_5 - x15_2)),.int .i64 x12_25,.int .i64 (wrap64 ((wrap64 (x157004_5+x19_5)) - x15_2)),.int .i64 x13_25,.int .i64 (wrap64 ((wrap64 (x157006_5+x19_5)) - x15_2))] 32 (0,0)) (by (with_reducible repeat (first|refine blk_drewN ?_ _|refine blk_drew ?_|refine blk_alloc ?_ _));exact BK156.out) hg (Kd.N_ne HO_8.out BK156.out (by decide)));have n5_:=Aside0.mk ((by rw [hw];exact below_set (HB.out) GB99.out:Below w.heap.size w w101));clear HO_7;clear HO_8;clear HO_9;clear HO_10;clear BK156;clear HB;have HO_7:=n0_;have HO_8:=n1_;have HO_9:=n2_;have HO_10:=n3_;have BK156:=n4_;have HB:=n5_;clear n0_ n1_ n2_ n3_ n4_ n5_;clear hg hw hp_))
     (try simp only [← hl8_1,← hl8_9])
     go_roundg k9
     case measure=>have:=HK1.out;have:=HK2.out;have:=HJ23.out;have:=HJ25.out;have:=HK5.out;have:=HJ60.out;have:=HJ70.out;have:=HJ73.out;have:=HK9.out;omega
     case rel=>exact ⟨(y174),(y168),(x19_5),((wrap64 (x12_25+(wrap64 ((wrap64 (x157004_5+x19_5)) - x15_2))))),((wrap64 (x13_25+(wrap64 ((wrap64 (x157006_5+x19_5)) - x15_2))))),rx,rx,rx,H',⟨by have:=HK1.out;have:=HK2.out;have:=HJ23.out;have:=HJ25.out;have:=HK5.out;have:=HJ60.out;have:=HJ70.out;have:=HJ73.out;have:=HK9.out;omega⟩,⟨by (try simp only [hl8_1]);(try simp only [hl8_9]);(with_reducible repeat (first|apply Kd.N_alloc|apply Kd.N_drewN|apply Kd.N_drew));exact Kd.N_mono HO_7.out (fun _ hk=>⟨hk.2,⟨hk.1.1,hk.1.2.1⟩⟩)⟩,⟨by (try simp only [hl8_1]);(try simp only [hl8_9]);(with_reducible repeat (first|apply Kd.N_alloc|apply Kd.N_drewN|apply Kd.N_drew));exact Kd.N_mono HO_8.out (fun _ hk=>⟨hk.1,hk.2.1⟩)⟩,⟨by (try simp only [hl8_1]);(try simp only [hl8_9]);(with_reducible repeat (first|apply Kd.R_alloc|apply Kd.R_drewN|apply Kd.R_drew));exact HO_9.out⟩,⟨by (try simp only [hl8_1]);(try simp only [hl8_9]);(with_reducible repeat (first|apply Kd.R_alloc|apply Kd.R_drewN|apply Kd.R_drew));exact Kd.R_mono HO_10.out (fun _ hk=>trivial)⟩,⟨by repeat (first|(with_reducible first|exact HB.out|apply below_alloc|apply pw_below_drewN|apply below_drew1|refine below_set ?_ GE156.out)|exact HB.out)⟩⟩
    rw [if_pos c81] at H
    have c81b0:decide (x24_9<(x8_9.length:Int))=true:=decide_eq_true c81
    clear c81
    by_cases c82:0≤x24_9
    rotate_left
    ·rw [if_neg c82] at H
     exact absurd H (by simp)
    rw [if_pos c82] at H
    have c82b0:decide (0≤x24_9)=true:=decide_eq_true c82
    clear c82
    by_cases c83:x24_9<(t147.length:Int)
    rotate_left
    ·rw [if_neg c83] at H
     exact absurd H (by simp)
    rw [if_pos c83] at H
    have c83b0:decide (x24_9<(t147.length:Int))=true:=decide_eq_true c83
    clear c83
    by_cases c84:0≤x14_2
    rotate_left
    ·rw [if_neg c84] at H
     exact absurd H (by simp)
    rw [if_pos c84] at H
    have c84b0:decide (0≤x14_2)=true:=decide_eq_true c84
    clear c84
    by_cases c85:x14_2<(t147.length:Int)
    rotate_left
    ·rw [if_neg c85] at H
     exact absurd H (by simp)
    rw [if_pos c85] at H
    have c85b0:decide (x14_2<(t147.length:Int))=true:=decide_eq_true c85
    clear c85
    by_cases c86:(rd t147 x24_9)=(rd t147 x14_2)
    rotate_left
    ·skip
     rw [if_neg c86] at H
     have c86b0:((rd t147 x24_9) == (rd t147 x14_2))=false:=beq_eq_false_iff_ne.mpr c86
     have c86b1:((rd t147 x24_9) != (rd t147 x14_2))=true:=bne_iff_ne.mpr c86
     have H':=Aside0.mk H
     clear H
     try go_wp2
     have n0_:=Aside0.mk (Kd.N_drew HO_7.out)
     have n1_:=Aside0.mk (Kd.N_drew HO_8.out)
     have n2_:=Aside0.mk (Kd.R_drew HO_9.out)
     have n3_:=Aside0.mk (Kd.R_drew HO_10.out)
     have n4_:=Aside0.mk (blk_drew BK156.out)
     have n5_:=Aside0.mk (below_drew1 HB.out)
     clear HO_7
     clear HO_8
     clear HO_9
     clear HO_10
     clear BK156
     clear HB
     have HO_7:=n0_
     have HO_8:=n1_
     have HO_9:=n2_
     have HO_10:=n3_
     have BK156:=n4_
     have HB:=n5_
     clear n0_ n1_ n2_ n3_ n4_ n5_
     obtain ⟨Ao96,co96,eo96⟩:=Kd.R_slice HO_9.out
     (first|subst eo96|(injection eo96 with f1_ f2_ f3_;have f4_:=f1_.symm;have f5_:=f3_.symm;clear f1_ f2_ f3_;subst f4_;subst f5_))
     have p171:0≤(x24_9:Int):=of_decide_eq_true asm
     have q171:x24_9<(t147.length:Int):=of_decide_eq_true asm
     obtain ⟨ad171,e171,hx171_0⟩:=Kd.at_int (Kd.R_reads' HO_9.out).2.2 x24_9 p171 q171
     cases e171
     replace p171:=eq_true p171
     replace q171:=eq_true q171
     have p172:0≤(x14_2:Int):=of_decide_eq_true asm
     have q172:x14_2<(t147.length:Int):=of_decide_eq_true asm
     obtain ⟨ad172,e172,hx172_0⟩:=Kd.at_int (Kd.R_reads' HO_9.out).2.2 x14_2 p172 q172
     obtain rfl:ad171=ad172:=(by injection e172)
     replace p172:=eq_true p172
     replace q172:=eq_true q172
     refine start_ (n:=14) (S:=fun w'=>w'.cell? (ad171.add (x24_9).toNat)=some (.int .i64 (rd t147 x24_9))∧w'.cell? (ad171.add (x14_2).toNat)=some (.int .i64 (rd t147 x14_2))) (ds:=[]) #[false,false,false,false,false,false,false,false,false,false,false,false,false,false] (by kernel_rfl) rfl rfl ⟨hx171_0,hx172_0⟩ (fun hHeld=>?_);refine with_tabW r08_Regions.tab56 r08_Regions.bits56 (fun HT_ HW_=>?_)
     generalize wr.drew=w95 at HO_7 HO_8 HO_9 HO_10 BK156 HB hx171_0 hx172_0 hHeld ⊢
     refine pure_ (i:=0) (N:=some 255) (v:=?_) (a':=?_) #[true,false,false,false,false,false,false,false,false,false,false,false,false,false] rfl rfl (any_of HT_.out (by kernel_rfl)) (fun _ _ _ h=>h) (Or.inl ⟨by rfl,?_⟩) ?_ ?_
     rotate_left
     ·intro w'
      go_simp
      with_reducible rfl
     rotate_left
     ·simp only [Act.put,za,zb,zc,i64_w,i32_w]
      rfl
     refine pure_ (i:=1) (N:=some 256) (v:=?_) (a':=?_) #[true,true,false,false,false,false,false,false,false,false,false,false,false,false] rfl rfl (any_of HT_.out (by kernel_rfl)) (fun _ _ _ h=>h) (Or.inl ⟨by rfl,?_⟩) ?_ ?_
     rotate_left
     ·intro w'
      go_simp
      with_reducible rfl
     rotate_left
     ·simp only [Act.put,za,zb,zc,i64_w,i32_w]
      rfl
     refine pure_ (i:=2) (N:=some 257) (v:=?_) (a':=?_) #[true,true,true,false,false,false,false,false,false,false,false,false,false,false] rfl rfl (any_of HT_.out (by kernel_rfl)) (fun _ _ _ h=>h) (Or.inl ⟨by rfl,?_⟩) ?_ ?_
     rotate_left
     ·intro w'
      go_simp
      with_reducible rfl
     rotate_left
     ·simp only [Act.put,za,zb,zc,i64_w,i32_w]
      rfl
     refine pure_ (i:=4) (N:=some 259) (v:=?_) (a':=?_) #[true,true,true,false,true,false,false,false,false,false,false,false,false,false] rfl rfl (any_of HT_.out (by kernel_rfl)) (fun _ _ _ h=>h) (Or.inl ⟨by rfl,?_⟩) ?_ ?_
     rotate_left
     ·intro w'
      go_simp
      with_reducible rfl
     rotate_left
     ·simp only [Act.put,za,zb,zc,i64_w,i32_w]
      rfl
     refine pure_ (i:=5) (N:=some 260) (v:=?_) (a':=?_) #[true,true,true,false,true,true,false,false,false,false,false,false,false,false] rfl rfl (any_of HT_.out (by kernel_rfl)) (fun _ _ _ h=>h) (Or.inl ⟨by rfl,?_⟩) ?_ ?_
     rotate_left
     ·intro w'
      go_simp
      with_reducible rfl
     rotate_left
     ·simp only [Act.put,za,zb,zc,i64_w,i32_w]
      rfl
     refine pure_ (i:=6) (N:=some 261) (v:=?_) (a':=?_) #[true,true,true,false,true,true,true,false,false,false,false,false,false,false] rfl rfl (any_of HT_.out (by kernel_rfl)) (fun _ _ _ h=>h) (Or.inl ⟨by rfl,?_⟩) ?_ ?_
     rotate_left
     ·intro w'
      go_simp
      with_reducible rfl
     rotate_left
     ·simp only [Act.put,za,zb,zc,i64_w,i32_w]
      rfl
     refine take_ (i:=3) (N:=some 258) (v:=?_) (a':=?_) #[true,true,true,true,true,true,true,false,false,false,false,false,false,false] rfl rfl (take_ofW HT_.out HW_.out (by kernel_rfl)) (fun _ _ _ h=>h) (Or.inl ⟨by rfl,?_⟩) hHeld ?_ ?_
     rotate_left
     ·rintro w' ⟨s0,s1⟩
      go_simp
      with_reducible rfl
     rotate_left
     ·simp only [Act.put,za,zb,zc,i64_w,i32_w]
      rfl
     refine take_ (i:=7) (N:=some 262) (v:=?_) (a':=?_) #[true,true,true,true,true,true,true,true,false,false,false,false,false,false] rfl rfl (take_ofW HT_.out HW_.out (by kernel_rfl)) (fun _ _ _ h=>h) (Or.inl ⟨by rfl,?_⟩) hHeld ?_ ?_
     rotate_left
     ·rintro w' ⟨s0,s1⟩
      go_simp
      with_reducible rfl
     rotate_left
     ·simp only [Act.put,za,zb,zc,i64_w,i32_w]
      rfl
     refine pure_ (i:=8) (N:=some 263) (v:=?_) (a':=?_) #[true,true,true,true,true,true,true,true,true,false,false,false,false,false] rfl rfl (any_of HT_.out (by kernel_rfl)) (fun _ _ _ h=>h) (Or.inl ⟨by rfl,?_⟩) ?_ ?_
     rotate_left
     ·intro w'
      go_simp
      with_reducible rfl
     rotate_left
     ·simp only [Act.put,za,zb,zc,i64_w,i32_w]
      rfl
     refine pure_ (i:=9) (N:=some 264) (v:=?_) (a':=?_) #[true,true,true,true,true,true,true,true,true,true,false,false,false,false] rfl rfl (any_of HT_.out (by kernel_rfl)) (fun _ _ _ h=>h) (Or.inl ⟨by rfl,?_⟩) ?_ ?_
     rotate_left
     ·intro w'
      go_simp
      with_reducible rfl
     rotate_left
     ·simp only [Act.put,za,zb,zc,i64_w,i32_w]
      rfl
     refine pure_ (i:=10) (N:=some 265) (v:=undef) (a':=?_) #[true,true,true,true,true,true,true,true,true,true,true,false,false,false] rfl rfl (any_of HT_.out (by kernel_rfl)) (fun _ _ _ h=>h) (Or.inr ⟨by rfl,rfl⟩) ?_ ?_
     rotate_left
     ·simp only [Act.put,za,zb,zc,i64_w,i32_w]
      rfl
     refine pure_ (i:=11) (N:=some 266) (v:=undef) (a':=?_) #[true,true,true,true,true,true,true,true,true,true,true,true,false,false] rfl rfl (any_of HT_.out (by kernel_rfl)) (fun _ _ _ h=>h) (Or.inr ⟨by rfl,rfl⟩) ?_ ?_
     rotate_left
     ·simp only [Act.put,za,zb,zc,i64_w,i32_w]
      rfl
     refine pure_ (i:=12) (N:=some 267) (v:=undef) (a':=?_) #[true,true,true,true,true,true,true,true,true,true,true,true,true,false] rfl rfl (any_of HT_.out (by kernel_rfl)) (fun _ _ _ h=>h) (Or.inr ⟨by rfl,rfl⟩) ?_ ?_
     rotate_left
     ·simp only [Act.put,za,zb,zc,i64_w,i32_w]
      rfl
     refine pure_ (i:=13) (N:=some 268) (v:=?_) (a':=?_) #[true,true,true,true,true,true,true,true,true,true,true,true,true,true] rfl rfl (any_of HT_.out (by kernel_rfl)) (fun _ _ _ h=>h) (Or.inl ⟨by rfl,?_⟩) ?_ ?_
     rotate_left
     ·intro w'
      go_simp
      with_reducible rfl
     rotate_left
     ·simp only [Act.put,za,zb,zc,i64_w,i32_w]
      rfl
     refine done_ (done_of HT_.out (by kernel_rfl)) ?_
     try go_wp2
     (try simp only [← hl8_9])
     go_roundg k9
     case measure=>have:=HK1.out;have:=HK2.out;have:=HJ23.out;have:=HJ25.out;have:=HK5.out;have:=HJ60.out;have:=HJ70.out;have:=HJ73.out;have:=HK9.out;omega
     case rel=>exact ⟨(x8_9),(wrap64 (x24_9+1)),rx,H',⟨by have:=HK1.out;have:=HK2.out;have:=HJ23.out;have:=HJ25.out;have:=HK5.out;have:=HJ60.out;have:=HJ70.out;have:=HJ73.out;have:=HK9.out;omega⟩,⟨by (try simp only [hl8_1]);(try simp only [hl8_9]);(with_reducible repeat (first|apply Kd.N_alloc|apply Kd.N_drewN|apply Kd.N_drew));exact HO_7.out⟩,⟨by (try simp only [hl8_1]);(try simp only [hl8_9]);(with_reducible repeat (first|apply Kd.N_alloc|apply Kd.N_drewN|apply Kd.N_drew));exact HO_8.out⟩,⟨by (try simp only [hl8_1]);(try simp only [hl8_9]);(with_reducible repeat (first|apply Kd.R_alloc|apply Kd.R_drewN|apply Kd.R_drew));exact HO_9.out⟩,⟨by (try simp only [hl8_1]);(try simp only [hl8_9]);(with_reducible repeat (first|apply Kd.R_alloc|apply Kd.R_drewN|apply Kd.R_drew));exact HO_10.out⟩,⟨by (try simp only [hl8_1]);(try simp only [hl8_9]);(with_reducible repeat (first|refine blk_drewN ?_ _|refine blk_drew ?_|refine blk_alloc ?_ _));exact BK156.out⟩,⟨by repeat (first|(with_reducible first|exact HB.out|apply below_alloc|apply pw_below_drewN|apply below_drew1|refine below_set ?_ GE156.out)|exact HB.out)⟩⟩
    rw [if_pos c86] at H
    have c86b0:((rd t147 x24_9) == (rd t147 x14_2))=true:=beq_iff_eq.mpr c86
    have c86b1:((rd t147 x24_9) != (rd t147 x14_2))=false:=bne_eq_false_iff_eq.mpr c86
    clear c86
    by_cases c87:x24_9=x14_2
    ·skip
     rw [if_pos c87] at H
     have c87b0:(x24_9 == x14_2)=true:=beq_iff_eq.mpr c87
     have c87b1:(x24_9 != x14_2)=false:=bne_eq_false_iff_eq.mpr c87
     clear c87
     have H':=Aside0.mk H
     clear H
     try go_wp2
     have n0_:=Aside0.mk (Kd.N_drew HO_7.out)
     have n1_:=Aside0.mk (Kd.N_drew HO_8.out)
     have n2_:=Aside0.mk (Kd.R_drew HO_9.out)
     have n3_:=Aside0.mk (Kd.R_drew HO_10.out)
     have n4_:=Aside0.mk (blk_drew BK156.out)
     have n5_:=Aside0.mk (below_drew1 HB.out)
     clear HO_7
     clear HO_8
     clear HO_9
     clear HO_10
     clear BK156
     clear HB
     have HO_7:=n0_
     have HO_8:=n1_
     have HO_9:=n2_
     have HO_10:=n3_
     have BK156:=n4_
     have HB:=n5_
     clear n0_ n1_ n2_ n3_ n4_ n5_
     obtain ⟨Ao89,co89,eo89⟩:=Kd.R_slice HO_9.out
     (first|subst eo89|(injection eo89 with f1_ f2_ f3_;have f4_:=f1_.symm;have f5_:=f3_.symm;clear f1_ f2_ f3_;subst f4_;subst f5_))
     have p171:0≤(x24_9:Int):=of_decide_eq_true asm
     have q171:x24_9<(t147.length:Int):=of_decide_eq_true asm
     obtain ⟨ad171,e171,hx171_0⟩:=Kd.at_int (Kd.R_reads' HO_9.out).2.2 x24_9 p171 q171
     cases e171
     replace p171:=eq_true p171
     replace q171:=eq_true q171
     have p172:0≤(x14_2:Int):=of_decide_eq_true asm
     have q172:x14_2<(t147.length:Int):=of_decide_eq_true asm
     obtain ⟨ad172,e172,hx172_0⟩:=Kd.at_int (Kd.R_reads' HO_9.out).2.2 x14_2 p172 q172
     obtain rfl:ad171=ad172:=(by injection e172)
     replace p172:=eq_true p172
     replace q172:=eq_true q172
     refine start_ (n:=14) (S:=fun w'=>w'.cell? (ad171.add (x24_9).toNat)=some (.int .i64 (rd t147 x24_9))∧w'.cell? (ad171.add (x14_2).toNat)=some (.int .i64 (rd t147 x14_2))) (ds:=[]) #[false,false,false,false,false,false,false,false,false,false,false,false,false,false] (by kernel_rfl) rfl rfl ⟨hx171_0,hx172_0⟩ (fun hHeld=>?_);refine with_tabW r08_Regions.tab56 r08_Regions.bits56 (fun HT_ HW_=>?_)
     generalize wr.drew=w88 at HO_7 HO_8 HO_9 HO_10 BK156 HB hx171_0 hx172_0 hHeld ⊢
     refine pure_ (i:=0) (N:=some 255) (v:=?_) (a':=?_) #[true,false,false,false,false,false,false,false,false,false,false,false,false,false] rfl rfl (any_of HT_.out (by kernel_rfl)) (fun _ _ _ h=>h) (Or.inl ⟨by rfl,?_⟩) ?_ ?_
     rotate_left
     ·intro w'
      go_simp
      with_reducible rfl
     rotate_left
     ·simp only [Act.put,za,zb,zc,i64_w,i32_w]
      rfl
     refine pure_ (i:=1) (N:=some 256) (v:=?_) (a':=?_) #[true,true,false,false,false,false,false,false,false,false,false,false,false,false] rfl rfl (any_of HT_.out (by kernel_rfl)) (fun _ _ _ h=>h) (Or.inl ⟨by rfl,?_⟩) ?_ ?_
     rotate_left
     ·intro w'
      go_simp
      with_reducible rfl
     rotate_left
     ·simp only [Act.put,za,zb,zc,i64_w,i32_w]
      rfl
     refine pure_ (i:=2) (N:=some 257) (v:=?_) (a':=?_) #[true,true,true,false,false,false,false,false,false,false,false,false,false,false] rfl rfl (any_of HT_.out (by kernel_rfl)) (fun _ _ _ h=>h) (Or.inl ⟨by rfl,?_⟩) ?_ ?_
     rotate_left
     ·intro w'
      go_simp
      with_reducible rfl
     rotate_left
     ·simp only [Act.put,za,zb,zc,i64_w,i32_w]
      rfl
     refine pure_ (i:=4) (N:=some 259) (v:=?_) (a':=?_) #[true,true,true,false,true,false,false,false,false,false,false,false,false,false] rfl rfl (any_of HT_.out (by kernel_rfl)) (fun _ _ _ h=>h) (Or.inl ⟨by rfl,?_⟩) ?_ ?_
     rotate_left
     ·intro w'
      go_simp
      with_reducible rfl
     rotate_left
     ·simp only [Act.put,za,zb,zc,i64_w,i32_w]
      rfl
     refine pure_ (i:=5) (N:=some 260) (v:=?_) (a':=?_) #[true,true,true,false,true,true,false,false,false,false,false,false,false,false] rfl rfl (any_of HT_.out (by kernel_rfl)) (fun _ _ _ h=>h) (Or.inl ⟨by rfl,?_⟩) ?_ ?_
     rotate_left
     ·intro w'
      go_simp
      with_reducible rfl
     rotate_left
     ·simp only [Act.put,za,zb,zc,i64_w,i32_w]
      rfl
     refine pure_ (i:=6) (N:=some 261) (v:=?_) (a':=?_) #[true,true,true,false,true,true,true,false,false,false,false,false,false,false] rfl rfl (any_of HT_.out (by kernel_rfl)) (fun _ _ _ h=>h) (Or.inl ⟨by rfl,?_⟩) ?_ ?_
     rotate_left
     ·intro w'
      go_simp
      with_reducible rfl
     rotate_left
     ·simp only [Act.put,za,zb,zc,i64_w,i32_w]
      rfl
     refine take_ (i:=3) (N:=some 258) (v:=?_) (a':=?_) #[true,true,true,true,true,true,true,false,false,false,false,false,false,false] rfl rfl (take_ofW HT_.out HW_.out (by kernel_rfl)) (fun _ _ _ h=>h) (Or.inl ⟨by rfl,?_⟩) hHeld ?_ ?_
     rotate_left
     ·rintro w' ⟨s0,s1⟩
      go_simp
      with_reducible rfl
     rotate_left
     ·simp only [Act.put,za,zb,zc,i64_w,i32_w]
      rfl
     refine take_ (i:=7) (N:=some 262) (v:=?_) (a':=?_) #[true,true,true,true,true,true,true,true,false,false,false,false,false,false] rfl rfl (take_ofW HT_.out HW_.out (by kernel_rfl)) (fun _ _ _ h=>h) (Or.inl ⟨by rfl,?_⟩) hHeld ?_ ?_
     rotate_left
     ·rintro w' ⟨s0,s1⟩
      go_simp
      with_reducible rfl
     rotate_left
     ·simp only [Act.put,za,zb,zc,i64_w,i32_w]
      rfl
     refine pure_ (i:=8) (N:=some 263) (v:=?_) (a':=?_) #[true,true,true,true,true,true,true,true,true,false,false,false,false,false] rfl rfl (any_of HT_.out (by kernel_rfl)) (fun _ _ _ h=>h) (Or.inl ⟨by rfl,?_⟩) ?_ ?_
     rotate_left
     ·intro w'
      go_simp
      with_reducible rfl
     rotate_left
     ·simp only [Act.put,za,zb,zc,i64_w,i32_w]
      rfl
     refine pure_ (i:=9) (N:=some 264) (v:=?_) (a':=?_) #[true,true,true,true,true,true,true,true,true,true,false,false,false,false] rfl rfl (any_of HT_.out (by kernel_rfl)) (fun _ _ _ h=>h) (Or.inl ⟨by rfl,?_⟩) ?_ ?_
     rotate_left
     ·intro w'
      go_simp
      with_reducible rfl
     rotate_left
     ·simp only [Act.put,za,zb,zc,i64_w,i32_w]
      rfl
     refine pure_ (i:=10) (N:=some 265) (v:=?_) (a':=?_) #[true,true,true,true,true,true,true,true,true,true,true,false,false,false] rfl rfl (any_of HT_.out (by kernel_rfl)) (fun _ _ _ h=>h) (Or.inl ⟨by rfl,?_⟩) ?_ ?_
     rotate_left
     ·intro w'
      go_simp
      with_reducible rfl
     rotate_left
     ·simp only [Act.put,za,zb,zc,i64_w,i32_w]
      rfl
     refine pure_ (i:=11) (N:=some 266) (v:=?_) (a':=?_) #[true,true,true,true,true,true,true,true,true,true,true,true,false,false] rfl rfl (any_of HT_.out (by kernel_rfl)) (fun _ _ _ h=>h) (Or.inl ⟨by rfl,?_⟩) ?_ ?_
     rotate_left
     ·intro w'
      go_simp
      with_reducible rfl
     rotate_left
     ·simp only [Act.put,za,zb,zc,i64_w,i32_w]
      rfl
     refine pure_ (i:=12) (N:=some 267) (v:=?_) (a':=?_) #[true,true,true,true,true,true,true,true,true,true,true,true,true,false] rfl rfl (any_of HT_.out (by kernel_rfl)) (fun _ _ _ h=>h) (Or.inl ⟨by rfl,?_⟩) ?_ ?_
     rotate_left
     ·intro w'
      go_simp
      with_reducible rfl
     rotate_left
     ·simp only [Act.put,za,zb,zc,i64_w,i32_w]
      rfl
     refine pure_ (i:=13) (N:=some 268) (v:=?_) (a':=?_) #[true,true,true,true,true,true,true,true,true,true,true,true,true,true] rfl rfl (any_of HT_.out (by kernel_rfl)) (fun _ _ _ h=>h) (Or.inl ⟨by rfl,?_⟩) ?_ ?_
     rotate_left
     ·intro w'
      go_simp
      with_reducible rfl
     rotate_left
     ·simp only [Act.put,za,zb,zc,i64_w,i32_w]
      rfl
     refine done_ (done_of HT_.out (by kernel_rfl)) ?_
     try go_wp2
     (try simp only [← hl8_9])
     go_roundg k9
     case measure=>have:=HK1.out;have:=HK2.out;have:=HJ23.out;have:=HJ25.out;have:=HK5.out;have:=HJ60.out;have:=HJ70.out;have:=HJ73.out;have:=HK9.out;omega
     case rel=>exact ⟨(x8_9),(wrap64 (x24_9+1)),rx,H',⟨by have:=HK1.out;have:=HK2.out;have:=HJ23.out;have:=HJ25.out;have:=HK5.out;have:=HJ60.out;have:=HJ70.out;have:=HJ73.out;have:=HK9.out;omega⟩,⟨by (try simp only [hl8_1]);(try simp only [hl8_9]);(with_reducible repeat (first|apply Kd.N_alloc|apply Kd.N_drewN|apply Kd.N_drew));exact HO_7.out⟩,⟨by (try simp only [hl8_1]);(try simp only [hl8_9]);(with_reducible repeat (first|apply Kd.N_alloc|apply Kd.N_drewN|apply Kd.N_drew));exact HO_8.out⟩,⟨by (try simp only [hl8_1]);(try simp only [hl8_9]);(with_reducible repeat (first|apply Kd.R_alloc|apply Kd.R_drewN|apply Kd.R_drew));exact HO_9.out⟩,⟨by (try simp only [hl8_1]);(try simp only [hl8_9]);(with_reducible repeat (first|apply Kd.R_alloc|apply Kd.R_drewN|apply Kd.R_drew));exact HO_10.out⟩,⟨by (try simp only [hl8_1]);(try simp only [hl8_9]);(with_reducible repeat (first|refine blk_drewN ?_ _|refine blk_drew ?_|refine blk_alloc ?_ _));exact BK156.out⟩,⟨by repeat (first|(with_reducible first|exact HB.out|apply below_alloc|apply pw_below_drewN|apply below_drew1|refine below_set ?_ GE156.out)|exact HB.out)⟩⟩
    skip
    rw [if_neg c87] at H
    have c87b0:(x24_9 == x14_2)=false:=beq_eq_false_iff_ne.mpr c87
    have c87b1:(x24_9 != x14_2)=true:=bne_iff_ne.mpr c87
    obtain ⟨y173,hy173⟩:∃ y_:List (S52),y_=(x8_9.set (x24_9:Int).toNat (⟨(-1),(rd_T52 x8_9 x24_9).f1,(rd_T52 x8_9 x24_9).f2⟩:S52)):=⟨_,rfl⟩
    replace H:(r08_Regions.l3 k9 l0 l1 l2 t132 y173 t147 y168 x19_5 (wrap64 (x12_25+(wrap64 ((wrap64 (x157004_5+x19_5)) - x15_2)))) (wrap64 (x13_25+(wrap64 ((wrap64 (x157006_5+x19_5)) - x15_2)))) x14_2 (wrap64 (x24_9+1)))=some r:=by first|(rw [hy173];with_reducible exact H)|(have H2_:=(Option.bind_some _ _).symm.trans H;rw [hy173];with_reducible exact H2_)|(have H2_:=(Option.bind_some _ _).symm.trans H;with_reducible exact H2_)|with_reducible exact H|(rw [hy173];exact H)|exact H
    have Ny173:=Aside0.mk hy173
    clear hy173
    have H':=Aside0.mk H
    clear H
    try go_wp2
    have n0_:=Aside0.mk (Kd.N_drew HO_7.out)
    have n1_:=Aside0.mk (Kd.N_drew HO_8.out)
    have n2_:=Aside0.mk (Kd.R_drew HO_9.out)
    have n3_:=Aside0.mk (Kd.R_drew HO_10.out)
    have n4_:=Aside0.mk (blk_drew BK156.out)
    have n5_:=Aside0.mk (below_drew1 HB.out)
    clear HO_7
    clear HO_8
    clear HO_9
    clear HO_10
    clear BK156
    clear HB
    have HO_7:=n0_
    have HO_8:=n1_
    have HO_9:=n2_
    have HO_10:=n3_
    have BK156:=n4_
    have HB:=n5_
    clear n0_ n1_ n2_ n3_ n4_ n5_
    obtain ⟨Ao92,co92,eo92⟩:=Kd.R_slice HO_9.out
    (first|subst eo92|(injection eo92 with f1_ f2_ f3_;have f4_:=f1_.symm;have f5_:=f3_.symm;clear f1_ f2_ f3_;subst f4_;subst f5_))
    have p171:0≤(x24_9:Int):=of_decide_eq_true asm
    have q171:x24_9<(t147.length:Int):=of_decide_eq_true asm
    obtain ⟨ad171,e171,hx171_0⟩:=Kd.at_int (Kd.R_reads' HO_9.out).2.2 x24_9 p171 q171
    cases e171
    replace p171:=eq_true p171
    replace q171:=eq_true q171
    have p172:0≤(x14_2:Int):=of_decide_eq_true asm
    have q172:x14_2<(t147.length:Int):=of_decide_eq_true asm
    obtain ⟨ad172,e172,hx172_0⟩:=Kd.at_int (Kd.R_reads' HO_9.out).2.2 x14_2 p172 q172
    obtain rfl:ad171=ad172:=(by injection e172)
    replace p172:=eq_true p172
    replace q172:=eq_true q172
    refine start_ (n:=14) (S:=fun w'=>w'.cell? (ad171.add (x24_9).toNat)=some (.int .i64 (rd t147 x24_9))∧w'.cell? (ad171.add (x14_2).toNat)=some (.int .i64 (rd t147 x14_2))) (ds:=[]) #[false,false,false,false,false,false,false,false,false,false,false,false,false,false] (by kernel_rfl) rfl rfl ⟨hx171_0,hx172_0⟩ (fun hHeld=>?_);refine with_tabW r08_Regions.tab56 r08_Regions.bits56 (fun HT_ HW_=>?_)
    generalize wr.drew=w91 at HO_7 HO_8 HO_9 HO_10 BK156 HB hx171_0 hx172_0 hHeld ⊢
    refine pure_ (i:=0) (N:=some 255) (v:=?_) (a':=?_) #[true,false,false,false,false,false,false,false,false,false,false,false,false,false] rfl rfl (any_of HT_.out (by kernel_rfl)) (fun _ _ _ h=>h) (Or.inl ⟨by rfl,?_⟩) ?_ ?_
    rotate_left
    ·intro w'
     go_simp
     with_reducible rfl
    rotate_left
    ·simp only [Act.put,za,zb,zc,i64_w,i32_w]
     rfl
    refine pure_ (i:=1) (N:=some 256) (v:=?_) (a':=?_) #[true,true,false,false,false,false,false,false,false,false,false,false,false,false] rfl rfl (any_of HT_.out (by kernel_rfl)) (fun _ _ _ h=>h) (Or.inl ⟨by rfl,?_⟩) ?_ ?_
    rotate_left
    ·intro w'
     go_simp
     with_reducible rfl
    rotate_left
    ·simp only [Act.put,za,zb,zc,i64_w,i32_w]
     rfl
    refine pure_ (i:=2) (N:=some 257) (v:=?_) (a':=?_) #[true,true,true,false,false,false,false,false,false,false,false,false,false,false] rfl rfl (any_of HT_.out (by kernel_rfl)) (fun _ _ _ h=>h) (Or.inl ⟨by rfl,?_⟩) ?_ ?_
    rotate_left
    ·intro w'
     go_simp
     with_reducible rfl
    rotate_left
    ·simp only [Act.put,za,zb,zc,i64_w,i32_w]
     rfl
    refine pure_ (i:=4) (N:=some 259) (v:=?_) (a':=?_) #[true,true,true,false,true,false,false,false,false,false,false,false,false,false] rfl rfl (any_of HT_.out (by kernel_rfl)) (fun _ _ _ h=>h) (Or.inl ⟨by rfl,?_⟩) ?_ ?_
    rotate_left
    ·intro w'
     go_simp
     with_reducible rfl
    rotate_left
    ·simp only [Act.put,za,zb,zc,i64_w,i32_w]
     rfl
    refine pure_ (i:=5) (N:=some 260) (v:=?_) (a':=?_) #[true,true,true,false,true,true,false,false,false,false,false,false,false,false] rfl rfl (any_of HT_.out (by kernel_rfl)) (fun _ _ _ h=>h) (Or.inl ⟨by rfl,?_⟩) ?_ ?_
    rotate_left
    ·intro w'
     go_simp
     with_reducible rfl
    rotate_left
    ·simp only [Act.put,za,zb,zc,i64_w,i32_w]
     rfl
    refine pure_ (i:=6) (N:=some 261) (v:=?_) (a':=?_) #[true,true,true,false,true,true,true,false,false,false,false,false,false,false] rfl rfl (any_of HT_.out (by kernel_rfl)) (fun _ _ _ h=>h) (Or.inl ⟨by rfl,?_⟩) ?_ ?_
    rotate_left
    ·intro w'
     go_simp
     with_reducible rfl
    rotate_left
    ·simp only [Act.put,za,zb,zc,i64_w,i32_w]
     rfl
    refine take_ (i:=3) (N:=some 258) (v:=?_) (a':=?_) #[true,true,true,true,true,true,true,false,false,false,false,false,false,false] rfl rfl (take_ofW HT_.out HW_.out (by kernel_rfl)) (fun _ _ _ h=>h) (Or.inl ⟨by rfl,?_⟩) hHeld ?_ ?_
    rotate_left
    ·rintro w' ⟨s0,s1⟩
     go_simp
     with_reducible rfl
    rotate_left
    ·simp only [Act.put,za,zb,zc,i64_w,i32_w]
     rfl
    refine take_ (i:=7) (N:=some 262) (v:=?_) (a':=?_) #[true,true,true,true,true,true,true,true,false,false,false,false,false,false] rfl rfl (take_ofW HT_.out HW_.out (by kernel_rfl)) (fun _ _ _ h=>h) (Or.inl ⟨by rfl,?_⟩) hHeld ?_ ?_
    rotate_left
    ·rintro w' ⟨s0,s1⟩
     go_simp
     with_reducible rfl
    rotate_left
    ·simp only [Act.put,za,zb,zc,i64_w,i32_w]
     rfl
    refine pure_ (i:=8) (N:=some 263) (v:=?_) (a':=?_) #[true,true,true,true,true,true,true,true,true,false,false,false,false,false] rfl rfl (any_of HT_.out (by kernel_rfl)) (fun _ _ _ h=>h) (Or.inl ⟨by rfl,?_⟩) ?_ ?_
    rotate_left
    ·intro w'
     go_simp
     with_reducible rfl
    rotate_left
    ·simp only [Act.put,za,zb,zc,i64_w,i32_w]
     rfl
    refine pure_ (i:=9) (N:=some 264) (v:=?_) (a':=?_) #[true,true,true,true,true,true,true,true,true,true,false,false,false,false] rfl rfl (any_of HT_.out (by kernel_rfl)) (fun _ _ _ h=>h) (Or.inl ⟨by rfl,?_⟩) ?_ ?_
    rotate_left
    ·intro w'
     go_simp
     with_reducible rfl
    rotate_left
    ·simp only [Act.put,za,zb,zc,i64_w,i32_w]
     rfl
    refine pure_ (i:=10) (N:=some 265) (v:=?_) (a':=?_) #[true,true,true,true,true,true,true,true,true,true,true,false,false,false] rfl rfl (any_of HT_.out (by kernel_rfl)) (fun _ _ _ h=>h) (Or.inl ⟨by rfl,?_⟩) ?_ ?_
    rotate_left
    ·intro w'
     go_simp
     with_reducible rfl
    rotate_left
    ·simp only [Act.put,za,zb,zc,i64_w,i32_w]
     rfl
    refine pure_ (i:=11) (N:=some 266) (v:=?_) (a':=?_) #[true,true,true,true,true,true,true,true,true,true,true,true,false,false] rfl rfl (any_of HT_.out (by kernel_rfl)) (fun _ _ _ h=>h) (Or.inl ⟨by rfl,?_⟩) ?_ ?_
    rotate_left
    ·intro w'
     go_simp
     with_reducible rfl
    rotate_left
    ·simp only [Act.put,za,zb,zc,i64_w,i32_w]
     rfl
    refine pure_ (i:=12) (N:=some 267) (v:=?_) (a':=?_) #[true,true,true,true,true,true,true,true,true,true,true,true,true,false] rfl rfl (any_of HT_.out (by kernel_rfl)) (fun _ _ _ h=>h) (Or.inl ⟨by rfl,?_⟩) ?_ ?_
    rotate_left
    ·intro w'
     go_simp
     with_reducible rfl
    rotate_left
    ·simp only [Act.put,za,zb,zc,i64_w,i32_w]
     rfl
    refine pure_ (i:=13) (N:=some 268) (v:=?_) (a':=?_) #[true,true,true,true,true,true,true,true,true,true,true,true,true,true] rfl rfl (any_of HT_.out (by kernel_rfl)) (fun _ _ _ h=>h) (Or.inl ⟨by rfl,?_⟩) ?_ ?_
    rotate_left
    ·intro w'
     go_simp
     with_reducible rfl
    rotate_left
    ·simp only [Act.put,za,zb,zc,i64_w,i32_w]
     rfl
    refine done_ (done_of HT_.out (by kernel_rfl)) ?_
    have p90:0≤(x24_9:Int):=of_decide_eq_true asm
    have q90:(x24_9:Int)<((x8_9.length:Int):Int):=of_decide_eq_true asm
    obtain ⟨go90,co90,eo90,gb90,gl90,cl90,HG90⟩:=Kd.N_form HO_8.out (by omega)
    (first|cases eo90|(injection eo90 with ea_ en_ ec_;(first|subst ea_|(injection ea_ with ea_;subst ea_));subst ec_;clear en_))
    have GB90:=Aside0.mk gb90
    have GG90:=Aside0.mk HG90
    clear gb90 gl90 HG90
    obtain ⟨ce90,hcl90,hM90,hcc90,hfr90⟩:=Kd.N_elem HO_8.out z52 (x24_9:Int) p90 q90
    obtain ⟨ua90_2,uc90_2,rfl,ul90_2,ge90_2⟩:=k52_openF hM90
    have hx90_0:w91.cell? ⟨go90,(x24_9:Int).toNat * 3,none⟩=some (.int .i64 ((rd_T52 x8_9 x24_9).f0)):=hcc90 0 _ rfl
    have hx90_1:w91.cell? ⟨go90,(x24_9:Int).toNat * 3+1,none⟩=some (.int .i64 ((rd_T52 x8_9 x24_9).f1)):=hcc90 1 _ rfl
    have hx90_2:w91.cell? ⟨go90,(x24_9:Int).toNat * 3+2,none⟩=some (.slice ua90_2 ((rd_T52 x8_9 x24_9).f2).length uc90_2):=hcc90 2 _ rfl
    have hf90_0:w91.frozen? ⟨go90,(x24_9:Int).toNat * 3,none⟩=false:=hfr90 0
    have hf90_1:w91.frozen? ⟨go90,(x24_9:Int).toNat * 3+1,none⟩=false:=hfr90 1
    have hf90_2:w91.frozen? ⟨go90,(x24_9:Int).toNat * 3+2,none⟩=false:=hfr90 2
    (try clear hcl90);(try clear hcc90);(try clear hfr90);(try clear hM90)
    replace p90:=eq_true p90
    replace q90:=eq_true q90
    have HX93:=Aside0.mk (show Kd.N k52 52 w91 w.heap.size (fun k_=>some k_≠(.slice (some ad171) t147.length co92:Value).ownBlock∧some k_≠(v169:Value).ownBlock∧k_≠gb156) (.slice (some ⟨go90,0,none⟩) x8_9.length co17) x8_9 from (by (with_reducible repeat (first|apply Kd.N_alloc|apply Kd.N_drewN|apply Kd.N_drew));exact HO_8.out))
    obtain ⟨ce93,hcl93,hM93,hcc93,hfr93⟩:=Kd.N_elem HX93.out z52 (x24_9:Int) (of_decide_eq_true asm) (by have h_:(x24_9:Int)<((x8_9.length:Int):Int):=of_decide_eq_true asm;first|exact h_|(have e_:=(Kd.N_reads' HO_8.out).1;omega)|simpa using h_)
    obtain ⟨ua93_2,uc93_2,rfl,ul93_2,ge93_2⟩:=k52_openF hM93
    have HP93:=Kd.N_seg HX93.out (x24_9:Int) (of_decide_eq_true asm) (by have h_:(x24_9:Int)<((x8_9.length:Int):Int):=of_decide_eq_true asm;first|exact h_|(have e_:=(Kd.N_reads' HO_8.out).1;omega)|simpa using h_) (seg:=[.int .i64 (-1)]) (j:=0) hcl93 hcc93 (show 1≤3 from by decide) (x':=(⟨(-1),(rd_T52 x8_9 x24_9).f1,(rd_T52 x8_9 x24_9).f2⟩:S52)) (k52_mkF _ _ (⟨(-1),(rd_T52 x8_9 x24_9).f1,(rd_T52 x8_9 x24_9).f2⟩:S52) ul93_2 ge93_2) (fun _ hk=>hk)
    have hx93_0:=hcc93 0 _ rfl
    (try simp only [show (k52).sz=3 from rfl,Nat.mul_one,Nat.add_zero] at hx93_0)
    have hf93_0:=hfr93 0
    (try simp only [show (k52).sz=3 from rfl,Nat.mul_one,Nat.add_zero] at hf93_0)
    (try clear hcl93);(try clear hcc93);(try clear hfr93);(try clear hM93)
    try go_wp2_with (first|((with_reducible refine gate_store (t:=3) (p:=272) rfl ?_);refine store_event (t:=3) (p:=272) (v:=?vo_w94) (w1:=(w91.setCell ⟨go90,(x24_9:Int).toNat * 3,none⟩ (.int .i64 (-1)))) ?hg ?ho ?hn ?hr ?_;(case ho=>rfl);(case hg=>rfl);(case hn=>rfl);(case hr=>first|(go_simp;done)|(go_simp;rfl));intro w94 hw;have hg:w91.grownBy w94 (some go90):=(by rw [hw];exact HP93.2);have hp_:Kd.N k52 52 w94 w.heap.size (fun k_=>some k_≠(.slice (some ad171) t147.length co92:Value).ownBlock∧some k_≠(v169:Value).ownBlock∧k_≠gb156) (.slice (some ⟨go90,0,none⟩) x8_9.length co17) y173:=(by rw [hw,Ny173.out];exact HP93.1);clear HP93;have n0_:=Aside0.mk (Kd.N_afterv (v:=(.slice (some ⟨go90,0,none⟩) x8_9.length co17)) (v1:=(.slice (some ⟨go90,0,none⟩) x8_9.length co17)) (ok:=(fun k_=>some k_≠(.slice (some ad171) t147.length co92:Value).ownBlock∧some k_≠(v169:Value).ownBlock∧k_≠gb156)) (by (with_reducible repeat (first|apply Kd.N_alloc|apply Kd.N_drewN|apply Kd.N_drew));exact Kd.N_mono HO_7.out (fun _ hk=>⟨⟨hk.2.1,⟨hk.2.2.1,hk.2.2.2⟩⟩,hk.1⟩)) hg (.inl rfl));have n1_:=Aside0.mk (hp_);have n2_:=Aside0.mk (Kd.R_over' (v:=(.slice (some ⟨go90,0,none⟩) x8_9.length co17)) (by (with_reducible repeat (first|apply Kd.R_alloc|apply Kd.R_drewN|apply Kd.R_drew));exact HO_9.out) (Kd.N_typed HO_8.out) (by decide) hg);have n3_:=Aside0.mk (Kd.R_over' (v:=(.slice (some ⟨go90,0,none⟩) x8_9.length co17)) (by (with_reducible repeat (first|apply Kd.R_alloc|apply Kd.R_drewN|apply Kd.R_drew));exact HO_10.out) (Kd.N_typed HO_8.out) (by decide) hg);have n4_:=Aside0.mk (blk_grown (g:=gb156) (o:=.cells #[.int .i64 x157000_73,.int .i64 x15_2,.int .i64 (wrap64 (x19_5 - x15_2)),.int .i64 x12_25,.int .i64 (wrap64 ((wrap64 (x157004_5+x19_5)) - x15_2)),.int .i64 x13_25,.int .i64 (wrap64 ((wrap64 (x157006_5+x19_5)) - x15_2))] 32 (0,0)) (by (with_reducible repeat (first|refine blk_drewN ?_ _|refine blk_drew ?_|refine blk_alloc ?_ _));exact BK156.out) hg (Kd.N_ne HO_8.out BK156.out (by decide)));have n5_:=Aside0.mk ((by rw [hw];exact below_set (HB.out) GB90.out:Below w.heap.size w w94));clear HO_7;clear HO_8;clear HO_9;clear HO_10;clear BK156;clear HB;have HO_7:=n0_;have HO_8:=n1_;have HO_9:=n2_;have HO_10:=n3_;have BK156:=n4_;have HB:=n5_;clear n0_ n1_ n2_ n3_ n4_ n5_;clear hg hw hp_))
    (try simp only [← hl8_9])
    go_roundg k9
    case measure=>have:=HK1.out;have:=HK2.out;have:=HJ23.out;have:=HJ25.out;have:=HK5.out;have:=HJ60.out;have:=HJ70.out;have:=HJ73.out;have:=HK9.out;omega
    case rel=>exact ⟨(y173),(wrap64 (x24_9+1)),rx,H',⟨by have:=HK1.out;have:=HK2.out;have:=HJ23.out;have:=HJ25.out;have:=HK5.out;have:=HJ60.out;have:=HJ70.out;have:=HJ73.out;have:=HK9.out;omega⟩,⟨by (try simp only [hl8_1]);(try simp only [hl8_9]);(with_reducible repeat (first|apply Kd.N_alloc|apply Kd.N_drewN|apply Kd.N_drew));exact Kd.N_mono HO_7.out (fun _ hk=>⟨hk.2,⟨hk.1.1,⟨hk.1.2.1,hk.1.2.2⟩⟩⟩)⟩,⟨by (try simp only [hl8_1]);(try simp only [hl8_9]);(with_reducible repeat (first|apply Kd.N_alloc|apply Kd.N_drewN|apply Kd.N_drew));exact HO_8.out⟩,⟨by (try simp only [hl8_1]);(try simp only [hl8_9]);(with_reducible repeat (first|apply Kd.R_alloc|apply Kd.R_drewN|apply Kd.R_drew));exact HO_9.out⟩,⟨by (try simp only [hl8_1]);(try simp only [hl8_9]);(with_reducible repeat (first|apply Kd.R_alloc|apply Kd.R_drewN|apply Kd.R_drew));exact HO_10.out⟩,⟨by (try simp only [hl8_1]);(try simp only [hl8_9]);(with_reducible repeat (first|refine blk_drewN ?_ _|refine blk_drew ?_|refine blk_alloc ?_ _));exact BK156.out⟩,⟨by repeat (first|(with_reducible first|exact HB.out|apply below_alloc|apply pw_below_drewN|apply below_drew1|refine below_set ?_ GE156.out)|exact HB.out)⟩⟩
end Go.Proofs.Ytnmphfelebkaiaa.Pr
-- shrunk
