import Derived.Test.YtnmphfelebkaiaaD6p0
set_option linter.unusedVariables false
set_option linter.unusedSimpArgs false
namespace Go.Proofs.Ytnmphfelebkaiaa.Pr
open Go.RowKit Go.Proofs.YtnmphfelebkaiaaW.PrintWords Go.Proofs.YtnmphfelebkaiaaW.PrintLast Go.Proofs.YtnmphfelebkaiaaW.PrintMore
attribute [local go_sem] max2_int min2_int max_two min_two max_three min_three max_four min_four

set_option maxHeartbeats 0 in
set_option maxRecDepth 100000 in
noncomputable def r08_Regions.calls.p122:PSigma fun G395:Prop=>(Held G395→(r08_Regions.calls.p0).1):=⟨_,by
 intro g395
 intro k A0 c0 l0 A1 c1 l1 A2 c2 l2 r w hu30 hu32 HR0 HC0 HR1 HC1 HR2 HC2 t132 A4 y135 Ny135 LMc5 y138 Ny138 t141 A6 LMc7 y144 Ny144 t147 A8 qa0 w9 v136 w10 Ao13 co13 v139 w12 w14 Ao16 co16 w15 Ao17 co17 w18 v148 HO134 HO143 HO146 HO149 qa2 qa3 qa4 u6 u10 u17 u18 u19 u20 u21 u22 u23 u24 u37 u38 u39 u40 u41 u42 u43 u72 u73 u74 u75 u76 u77 u78 u79 u80 u81 u82 u83 u84 u85 u86 u87 u88 u89 u90 u91 u92 u93 u94 u95 u96 u97 u98 u99 u100 u101 u102 u103 u104 u105 u106 u107 u108 u109 u110 u111 u112 u113 u114 u115 u116 u117 u118 u119 u120 u121 u122 u123 u124 u125 u126 u127 u128 u129 u130 u131 u132 u133 u134 u135 u136 u137 u138 u139 u140 u141 u142 u143 u144 u145 u146 u147 u148 u149 u150 u151 u152 u153 u154 u155 u156 u157 u158 u159 u160 u161 u162 u163 u164 u165 u166 u167 u168 u169 u170 u171 u172 u173 u174 u175 u176 u177 u178 u179 u180 u181 u182 u183 u184 u185 u186 u187 u188 u189 u190 u191 u192 u193 u194 u195 u196 u197 u198 u199 u200 u201 u202 u203 u204 u205 u206 u207 u208 u209 u210 u211 u212 u213 u214 u215 u216 u217 u218 u219 u220 u221 u222 u223 u224 u225 u226 u227 u228 u229 u230 u231 u232 u233 u234 u235 u236 u237 u238 u239 u240 u241 u242 u243 u244 u245 u246 u247 u248 u249 u250 u251 u252 u253 u254 u255 u256 u257 u258 u259 u260 u261 u262 u263 u264 u265 u266 u267 u268 u269 u270 u271 u272 u273 u274 u275 u276 qa5 qa6 qa7 x8_1 x10_1 x11_1 x12_1 x13_1 HO_8 HO_9 HO_10 HB hl8_1 HO_7 k1 qa8 HK1 c19b0 H' qa9 qa10 gk wr u14 u15 u16 u44 u45 u46 u47 u48 u49 u50 u51 u52 u53 u54 u55 u56 u57 u58 u59 u60 u61 u62 u63 u64 u65 u66 u67 u68 u69 u70 u71 hrel qa11 qa12 qa13 qa14
 clear H'
 obtain ⟨x14_2,x15_2,x16_2,rfl,rfl,rfl,HA,HK2,HO_7,HO_8,HO_9,HO_10,HB⟩:=hrel
 cases gk with
 | zero=>exact absurd HA.out (by simp [r08_Regions.l1])
 | succ k2 =>
  have H:=HA.out
  clear HA
  simp only [r08_Regions.l1] at H
  by_cases c20:x16_2<(x8_1.length:Int)
  rotate_left
  ·rw [if_neg c20] at H
   have c20b0:decide (x16_2<(x8_1.length:Int))=false:=decide_eq_false c20
   clear c20
   have HC24:=Aside0.mk H
   clear H
   go_upto_region 17 with (fail)
   go_cut [80] (fun v80 wc=>∃ (kq:Nat) (x80_23:Bool),v80=.bool x80_23∧Aside0 (r08_Regions.j2 kq l0 l1 l2 t132 x8_1 t147 x10_1 x11_1 x12_1 x13_1 x14_2 x15_2 x80_23=some r)∧Aside0 (kq≤k2)∧Aside0 (Kd.N k52 52 wc w.heap.size (fun k_=>some k_≠((.slice Ao17 x8_1.length co17):Value).ownBlock∧some k_≠(v148:Value).ownBlock∧some k_≠(u10:Value).ownBlock) (.slice Ao13 t132.length co13) t132)∧Aside0 (Kd.N k52 52 wc w.heap.size (fun k_=>some k_≠(v148:Value).ownBlock∧some k_≠(u10:Value).ownBlock) (.slice Ao17 x8_1.length co17) x8_1)∧Aside0 (Kd.R (Kd.int .i64) 3 wc w.heap.size (fun _=>True) v148 t147)∧Aside0 (Kd.R k32 32 wc w.heap.size (fun _=>True) u10 x10_1)∧Aside0 (Below w.heap.size w wc))
   case first =>
    have H:=HC24.out
    clear HC24
    by_cases c25:x15_2 > x11_1
    ·skip
     rw [if_pos c25] at H
     have c25b0:decide (x11_1<x15_2)=true:=decide_eq_true c25
     clear c25
     (first|rw [c25b0]|(simp only [i64_w,i32_w];rw [c25b0])|skip)
     have H':=Aside0.mk H
     clear H
     go_wp2
     go_meet
     case rel=>exact ⟨_,(decide (x11_1<(l0.length:Int))),rx,H',⟨by have:=HK1.out;have:=HK2.out;first|omega|exact Nat.le_refl _⟩,⟨by (try simp only [hl8_1]);(with_reducible repeat (first|apply Kd.N_alloc|apply Kd.N_drewN|apply Kd.N_drew));exact HO_7.out⟩,⟨by (try simp only [hl8_1]);(with_reducible repeat (first|apply Kd.N_alloc|apply Kd.N_drewN|apply Kd.N_drew));exact HO_8.out⟩,⟨by (try simp only [hl8_1]);(with_reducible repeat (first|apply Kd.R_alloc|apply Kd.R_drewN|apply Kd.R_drew));exact HO_9.out⟩,⟨by (try simp only [hl8_1]);(with_reducible repeat (first|apply Kd.R_alloc|apply Kd.R_drewN|apply Kd.R_drew));exact HO_10.out⟩,⟨by repeat (first|(with_reducible first|exact HB.out|apply below_alloc|apply pw_below_drewN|apply below_drew1)|exact HB.out)⟩⟩
    skip
    rw [if_neg c25] at H
    have c25b0:decide (x11_1<x15_2)=false:=decide_eq_false c25
    clear c25
    (first|rw [c25b0]|(simp only [i64_w,i32_w];rw [c25b0])|skip)
    have H':=Aside0.mk H
    clear H
    go_wp2
    go_meet
    case rel=>exact ⟨_,(false),rx,H',⟨by have:=HK1.out;have:=HK2.out;first|omega|exact Nat.le_refl _⟩,⟨by (try simp only [hl8_1]);(with_reducible repeat (first|apply Kd.N_alloc|apply Kd.N_drewN|apply Kd.N_drew));exact HO_7.out⟩,⟨by (try simp only [hl8_1]);(with_reducible repeat (first|apply Kd.N_alloc|apply Kd.N_drewN|apply Kd.N_drew));exact HO_8.out⟩,⟨by (try simp only [hl8_1]);(with_reducible repeat (first|apply Kd.R_alloc|apply Kd.R_drewN|apply Kd.R_drew));exact HO_9.out⟩,⟨by (try simp only [hl8_1]);(with_reducible repeat (first|apply Kd.R_alloc|apply Kd.R_drewN|apply Kd.R_drew));exact HO_10.out⟩,⟨by repeat (first|(with_reducible first|exact HB.out|apply below_alloc|apply pw_below_drewN|apply below_drew1)|exact HB.out)⟩⟩
   case rest =>
    clear HC24
    obtain ⟨kq,x80_23,rfl,HA,HJ23,HO_7,HO_8,HO_9,HO_10,HB⟩:=hcut
    cases kq with
    | zero=>exact absurd HA.out (by simp [r08_Regions.j2])
    | succ kj23 =>
     have H:=HA.out
     clear HA
     simp only [r08_Regions.j2] at H
     have HC26:=Aside0.mk H
     clear H
     go_upto_if 80 with (fail)
     go_cut [10,12,13] (fun v10 v12 v13 wc=>∃ (kq:Nat) (x10_25:List (S32)) (x12_25:Int) (x13_25:Int),v12=.int .i64 x12_25∧v13=.int .i64 x13_25∧Aside0 (r08_Regions.j3 kq l0 l1 l2 t132 x8_1 t147 x10_25 x12_25 x13_25 x14_2 x15_2=some r)∧Aside0 (kq≤kj23)∧Aside0 (Kd.N k52 52 wc w.heap.size (fun k_=>some k_≠((.slice Ao17 x8_1.length co17):Value).ownBlock∧some k_≠(v148:Value).ownBlock∧some k_≠(v10:Value).ownBlock) (.slice Ao13 t132.length co13) t132)∧Aside0 (Kd.N k52 52 wc w.heap.size (fun k_=>some k_≠(v148:Value).ownBlock∧some k_≠(v10:Value).ownBlock) (.slice Ao17 x8_1.length co17) x8_1)∧Aside0 (Kd.R (Kd.int .i64) 3 wc w.heap.size (fun _=>True) v148 t147)∧Aside0 (Kd.R k32 32 wc w.heap.size (fun _=>True) v10 x10_25)∧Aside0 (Below w.heap.size w wc))
     case first =>
      have H:=HC26.out
      clear HC26
      by_cases c27:x80_23=true
      rotate_left
      ·skip
       replace c27:=Bool.eq_false_iff.mpr c27
       subst c27
       have H1:(r08_Regions.j3 kj23 l0 l1 l2 t132 x8_1 t147 x10_1 x12_1 x13_1 x14_2 x15_2)=some r:=by rw [if_neg (show ¬ (false=true) by decide)] at H;exact H
       clear H
       have H:=H1
       clear H1
       have H':=Aside0.mk H
       clear H
       go_wp2
       go_meet
       case rel=>exact ⟨_,(x10_1),(x12_1),(x13_1),rx,rx,H',⟨by have:=HK1.out;have:=HK2.out;have:=HJ23.out;first|omega|exact Nat.le_refl _⟩,⟨by (try simp only [hl8_1]);(with_reducible repeat (first|apply Kd.N_alloc|apply Kd.N_drewN|apply Kd.N_drew));exact HO_7.out⟩,⟨by (try simp only [hl8_1]);(with_reducible repeat (first|apply Kd.N_alloc|apply Kd.N_drewN|apply Kd.N_drew));exact HO_8.out⟩,⟨by (try simp only [hl8_1]);(with_reducible repeat (first|apply Kd.R_alloc|apply Kd.R_drewN|apply Kd.R_drew));exact HO_9.out⟩,⟨by (try simp only [hl8_1]);(with_reducible repeat (first|apply Kd.R_alloc|apply Kd.R_drewN|apply Kd.R_drew));exact HO_10.out⟩,⟨by repeat (first|(with_reducible first|exact HB.out|apply below_alloc|apply pw_below_drewN|apply below_drew1)|exact HB.out)⟩⟩
      subst c27
      have H1:(if x10_1.length<2513169434916 then (r08_Regions.j3 kj23 l0 l1 l2 t132 x8_1 t147 (x10_1++[(⟨0,(⟨x11_1,wrap64 ((mn x15_2 (l0.length:Int)) - x11_1)⟩:S30),(⟨x12_1,wrap64 ((mn x15_2 (l0.length:Int)) - x11_1)⟩:S30),(⟨x13_1,wrap64 ((mn x15_2 (l0.length:Int)) - x11_1)⟩:S30)⟩:S32)]) (wrap64 (x12_1+(wrap64 ((mn x15_2 (l0.length:Int)) - x11_1)))) (wrap64 (x13_1+(wrap64 ((mn x15_2 (l0.length:Int)) - x11_1)))) x14_2 x15_2) else (none))=some r:=by rw [if_pos rfl] at H;exact H
      clear H
      have H:=H1
      clear H1
      obtain ⟨ji28,hji28⟩:∃ j_:Int,(mn x15_2 (l0.length:Int))=j_:=⟨_,rfl⟩
      replace H:(if x10_1.length<2513169434916 then (r08_Regions.j3 kj23 l0 l1 l2 t132 x8_1 t147 (x10_1++[(⟨0,(⟨x11_1,wrap64 ((ji28) - x11_1)⟩:S30),(⟨x12_1,wrap64 ((ji28) - x11_1)⟩:S30),(⟨x13_1,wrap64 ((ji28) - x11_1)⟩:S30)⟩:S32)]) (wrap64 (x12_1+(wrap64 ((ji28) - x11_1)))) (wrap64 (x13_1+(wrap64 ((ji28) - x11_1)))) x14_2 x15_2) else (none))=some r:=by first|(rw [hji28] at H;exact H)|(simp only [hji28] at H ⊢;exact H)
      have hji28_:(if (l0.length:Int)<x15_2 then (l0.length:Int) else x15_2)=ji28:=hji28
      by_cases c29:x10_1.length<2513169434916
      rotate_left
      ·rw [if_neg c29] at H
       exact absurd H (by simp)
      skip
      rw [if_pos c29] at H
      have LMc29:=Aside0.mk c29
      clear c29
      obtain ⟨y153,hy153⟩:∃ y_:List (S32),y_=(x10_1++[(⟨0,(⟨x11_1,wrap64 ((ji28) - x11_1)⟩:S30),(⟨x12_1,wrap64 ((ji28) - x11_1)⟩:S30),(⟨x13_1,wrap64 ((ji28) - x11_1)⟩:S30)⟩:S32)]):=⟨_,rfl⟩
      replace H:(r08_Regions.j3 kj23 l0 l1 l2 t132 x8_1 t147 y153 (wrap64 (x12_1+(wrap64 ((ji28) - x11_1)))) (wrap64 (x13_1+(wrap64 ((ji28) - x11_1)))) x14_2 x15_2)=some r:=by first|(rw [hy153];with_reducible exact H)|(have H2_:=(Option.bind_some _ _).symm.trans H;rw [hy153];with_reducible exact H2_)|(have H2_:=(Option.bind_some _ _).symm.trans H;with_reducible exact H2_)|with_reducible exact H|(rw [hy153];exact H)|exact H
      have Ny153:=Aside0.mk hy153
      clear hy153
      have H':=Aside0.mk H
      clear H
      go_wp2_with (first|((with_reducible refine gate_builtin (b:=.append) (xs:=#[.tmp 87,.tmp 98]) rfl ?_);(try (refine gate_guard (by rfl) ?_;dsimp only));at_builtin;refine Kd.R_append k32 (w0:=w) w.heap.size rfl (.tmp 87) (.tmp 98) 25 32 (.agg #[(.int .i64 0),(.int .i64 0),(.int .i64 0),(.int .i64 0),(.int .i64 0),(.int .i64 0),(.int .i64 0)]) 56 rfl Try.underlying25 info32 rfl (by decide) (by omega) u10 x10_1 (⟨0,(⟨x11_1,wrap64 ((ji28) - x11_1)⟩:S30),(⟨x12_1,wrap64 ((ji28) - x11_1)⟩:S30),(⟨x13_1,wrap64 ((ji28) - x11_1)⟩:S30)⟩:S32) [.int .i64 0,.int .i64 x11_1,.int .i64 (wrap64 ((ji28) - x11_1)),.int .i64 x12_1,.int .i64 (wrap64 ((ji28) - x11_1)),.int .i64 x13_1,.int .i64 (wrap64 ((ji28) - x11_1))] (fun _=>True) (fun _=>False) rfl rfl ?aP (fun _ hk=>hk.elim) ?aF ?aO ?aB ?aS ?aL ?_;(case aP=>exact k32_mkM _ _ _ (⟨0,(⟨x11_1,wrap64 ((ji28) - x11_1)⟩:S30),(⟨x12_1,wrap64 ((ji28) - x11_1)⟩:S30),(⟨x13_1,wrap64 ((ji28) - x11_1)⟩:S30)⟩:S32));(case aB=>exact bel);(case aF=>exact (fun _ _=>trivial));(case aO=>exact (by (with_reducible repeat (first|apply Kd.R_alloc|apply Kd.R_drewN|apply Kd.R_drew));exact HO_10.out));(case aS=>exact (below_size bel));(case aL=>have:=LMc29.out;omega);intro v154 w30 ho hb hg hat;rw [← Ny153.out] at ho;have n0_:=Aside0.mk (Kd.N_afterv (ok:=(fun k_=>some k_≠(.slice Ao17 x8_1.length co17:Value).ownBlock∧some k_≠(v148:Value).ownBlock)) (by (with_reducible repeat (first|apply Kd.N_alloc|apply Kd.N_drewN|apply Kd.N_drew));exact Kd.N_mono HO_7.out (fun _ hk=>⟨⟨hk.1,hk.2.1⟩,hk.2.2⟩)) hg hat);have n1_:=Aside0.mk (Kd.N_afterv (ok:=(fun k_=>some k_≠(v148:Value).ownBlock)) (by (with_reducible repeat (first|apply Kd.N_alloc|apply Kd.N_drewN|apply Kd.N_drew));exact HO_8.out) hg hat);have n2_:=Aside0.mk (Kd.R_over' (by (with_reducible repeat (first|apply Kd.R_alloc|apply Kd.R_drewN|apply Kd.R_drew));exact HO_9.out) (Kd.R_typed (by (with_reducible repeat (first|apply Kd.R_alloc|apply Kd.R_drewN|apply Kd.R_drew));exact HO_10.out)) (by decide) hg);have n3_:=Aside0.mk (hb);have n4_:=Aside0.mk (ho);clear HO_7;clear HO_8;clear HO_9;clear HB;clear HO_10;have HO_7:=n0_;have HO_8:=n1_;have HO_9:=n2_;have HB:=n3_;have HO155:=n4_;clear n0_ n1_ n2_ n3_ n4_;clear ho hb hg hat))
      go_meet
      case rel=>exact ⟨_,(y153),(wrap64 (x12_1+(wrap64 ((ji28) - x11_1)))),(wrap64 (x13_1+(wrap64 ((ji28) - x11_1)))),(by first|rfl|(simp;done)|(simp only [← hji28]<;>(first|rfl|simp))|(simp [*];done)),(by first|rfl|(simp;done)|(simp only [← hji28]<;>(first|rfl|simp))|(simp [*];done)),H',⟨by have:=HK1.out;have:=HK2.out;have:=HJ23.out;first|omega|exact Nat.le_refl _⟩,⟨by (try simp only [hl8_1]);(with_reducible repeat (first|apply Kd.N_alloc|apply Kd.N_drewN|apply Kd.N_drew));exact Kd.N_mono HO_7.out (fun _ hk=>⟨hk.1.1,⟨hk.1.2,hk.2⟩⟩)⟩,⟨by (try simp only [hl8_1]);(with_reducible repeat (first|apply Kd.N_alloc|apply Kd.N_drewN|apply Kd.N_drew));exact HO_8.out⟩,⟨by (try simp only [hl8_1]);(with_reducible repeat (first|apply Kd.R_alloc|apply Kd.R_drewN|apply Kd.R_drew));exact HO_9.out⟩,⟨by (try simp only [hl8_1]);(with_reducible repeat (first|apply Kd.R_alloc|apply Kd.R_drewN|apply Kd.R_drew));exact HO155.out⟩,⟨by repeat (first|(with_reducible first|exact HB.out|apply below_alloc|apply pw_below_drewN|apply below_drew1)|exact HB.out)⟩⟩
     case rest =>
      rename_i qb0 qb1 _ _ _ _ _ _ _ qb2 qb3 qb4 qb5 qb6 qb7 qb8 qb9 qb10 qb11 qb12 qb13 qb14 qb15 qb16 qb17 qb18 qb19 qb20 qb21 qb22 qb23 qb24 qb25 qb26 qb27 qb28 qb29 qb30 qb31 qb32 qb33 qb34 qb35 qb36 qb37 qb38 qb39 qb40 qb41 qb42 qb43 qb44 qb45 qb46 qb47 qb48 qb49 qb50 qb51 qb52 qb53 qb54 qb55 qb56 qb57 qb58 qb59 qb60 qb61 qb62 qb63 qb64 qb65 qb66 qb67 qb68 qb69 qb70 qb71 qb72 qb73 qb74 qb75 qb76 qb77 qb78 qb79 qb80 qb81 qb82 qb83 qb84 qb85 qb86 qb87 qb88 qb89 qb90 qb91 qb92 qb93 qb94 qb95 qb96 qb97 qb98 qb99 qb100 qb101 qb102 qb103 qb104 qb105 qb106 qb107 qb108 qb109 qb110 qb111 qb112 qb113 qb114 qb115 qb116 qb117 qb118 qb119 qb120 qb121 qb122 qb123 qb124 qb125 qb126 qb127 qb128 qb129 qb130 qb131 qb132 qb133 qb134 qb135 qb136 qb137 qb138 qb139 qb140 qb141 qb142 qb143 qb144 qb145 qb146 qb147 qb148 qb149 qb150 qb151 qb152 qb153 qb154 qb155 qb156 qb157 qb158 qb159 qb160 qb161 qb162 qb163 qb164 qb165 qb166 qb167 qb168 qb169 qb170 qb171 qb172 qb173 qb174 qb175 qb176 qb177 qb178 qb179 qb180 qb181 qb182 qb183 qb184 qb185 qb186 qb187 qb188 qb189 qb190 qb191 qb192 qb193 qb194 qb195 qb196 qb197 qb198 qb199 qb200 qb201 qb202 qb203 qb204 qb205 qb206 x207 x208 x209 x210 x211 _ _ _ _ _ _ _ _ _ _ _ _ _ _ _ _ _ _ _ _ _ _ _ _ _ _ _ _ x212 x213 x214 x215 x216 _ x217 qb218 qb219 qb220 _ _ _ _ _ _ _ _ _ _ _ _ _ _ _ _ _ _ _ _ _ _ _ _ _ _ _ _ _ _ _ _ _ _ _ _ _ _ _ _ _ _ _ _ _ _ _ _ _ _ _ _ _ _ _ _ _ _ _ _ _ _ _ _ _ _ _ _ _ _ _ _ _ _ _ _ _ _ _ _ _ _ _ _ _ _ _ _ _ _ _ _ _ _ _ _ _ _ _ _ _ _ _ _ _ _ _ _ _ _ _ _ _ _ _ _ _ _ _ _ _ _ _ _ _ _ _ _ _ _ _ _ _ _ _ _ _ _ _ _ _ _ _ _ _ _ _ _ _ _ _ _ _ _ _ _ _ _ _ _ _ _ _ _ _ _ _ _ _ _ _ _ _ _ _ _ _ _ _ _ _ _ _ _ _ _ _ _ _ _ _ _ _ _ _ _ _ _ _ _ _ _ _ _ _ _ _ _ _ _ _ _ _ _ _ _ _ _ _ _ _ _ _ _ _ _ _ _ _ _ _ _ _ _ _ _ _ _ _
      clear x207 x208 x209 x210 x211 x212 x213 x214 x215 x216 x217
      revert k A0 c0 l0 A1 c1 l1 A2 c2 l2 r w hu30 hu32 HR0 HC0 HR1 HC1 HR2 HC2 t132 A4 y135 Ny135 LMc5 y138 Ny138 t141 A6 LMc7 y144 Ny144 t147 A8 qa0 w9 v136 w10 Ao13 co13 v139 w12 w14 Ao16 co16 w15 Ao17 co17 w18 v148 HO134 HO143 HO146 HO149 qa2 qa3 qa4 u6 qb0 qb1 u18 u19 u20 u21 u22 u23 u24 qb2 qb3 qb4 qb5 qb6 qb7 qb8 qb9 qb10 qb11 qb12 qb13 qb14 qb15 qb16 qb17 qb18 qb19 qb20 qb21 qb22 qb23 qb24 qb25 qb26 qb27 qb28 qb29 qb30 qb31 qb32 qb33 qb34 qb35 qb36 qb37 qb38 qb39 qb40 qb41 qb42 qb43 qb44 qb45 qb46 qb47 qb48 qb49 qb50 qb51 qb52 qb53 qb54 qb55 qb56 qb57 qb58 qb59 qb60 qb61 qb62 qb63 qb64 qb65 qb66 qb67 qb68 qb69 qb70 qb71 qb72 qb73 qb74 qb75 qb76 qb77 qb78 qb79 qb80 qb81 qb82 qb83 qb84 qb85 qb86 qb87 qb88 qb89 qb90 qb91 qb92 qb93 qb94 qb95 qb96 qb97 qb98 qb99 qb100 qb101 qb102 qb103 qb104 qb105 qb106 qb107 qb108 qb109 qb110 qb111 qb112 qb113 qb114 qb115 qb116 qb117 qb118 qb119 qb120 qb121 qb122 qb123 qb124 qb125 qb126 qb127 qb128 qb129 qb130 qb131 qb132 qb133 qb134 qb135 qb136 qb137 qb138 qb139 qb140 qb141 qb142 qb143 qb144 qb145 qb146 qb147 qb148 qb149 qb150 qb151 qb152 qb153 qb154 qb155 qb156 qb157 qb158 qb159 qb160 qb161 qb162 qb163 qb164 qb165 qb166 qb167 qb168 qb169 qb170 qb171 qb172 qb173 qb174 qb175 qb176 qb177 qb178 qb179 qb180 qb181 qb182 qb183 qb184 qb185 qb186 qb187 qb188 qb189 qb190 qb191 qb192 qb193 qb194 qb195 qb196 qb197 qb198 qb199 qb200 qb201 qb202 qb203 qb204 qb205 qb206 qa5 qa6 qa7 x8_1 x10_1 x11_1 x12_1 x13_1 hl8_1 k1 qa8 HK1 c19b0 qa9 wr qa11 qa12 qa13 x14_2 x15_2 x16_2 k2 qa14 HK2 c20b0 qb218 qb219 qb220 x80_23 HO_7 HO_8 HO_9 HO_10 HB kj23 HJ23 HC26 wc u10 u12 u13 u17 u37 u38 u39 u40 u41 u42 u43 u44 u45 u46 u47 u48 u49 u50 u51 u52 u53 u54 u55 u56 u57 u58 u59 u60 u61 u62 u63 u64 u65 u66 u67 u68 u69 u70 u71 u72 u73 u74 u75 u76 u77 u78 u79 u80 u81 u82 u83 u84 u85 u86 u87 u88 u89 u90 u91 u92 u93 u94 u95 u96 u97 u98 u99 u100 u101 u102 u103 u104 u105 u106 u107 u108 u109 u110 u111 u112 u113 u114 u115 u116 u117 u118 u119 u120 u121 u122 u123 u124 u125 u126 u127 u128 u129 u130 u131 u132 u133 u134 u135 u136 u137 u138 u139 u140 u141 u142 u143 u144 u145 u146 u147 u148 u149 u150 u151 u152 u153 u154 u155 u156 u157 u158 u159 u160 u161 u162 u163 u164 u165 u166 u167 u168 u169 u170 u171 u172 u173 u174 u175 u176 u177 u178 u179 u180 u181 u182 u183 u184 u185 u186 u187 u188 u189 u190 u191 u192 u193 u194 u195 u196 u197 u198 u199 u200 u201 u202 u203 u204 u205 u206 u207 u208 u209 u210 u211 u212 u213 u214 u215 u216 u217 u218 u219 u220 u221 u222 u223 u224 u225 u226 u227 u228 u229 u230 u231 u232 u233 u234 u235 u236 u237 u238 u239 u240 u241 u242 u243 u244 u245 u246 u247 u248 u249 u250 u251 u252 u253 u254 u255 u256 u257 u258 u259 u260 u261 u262 u263 u264 u265 u266 u267 u268 u269 u270 u271 u272 u273 u274 u275 u276 hcut
      exact g395.out
  rw [if_pos c20] at H
  have c20b0:decide (x16_2<(x8_1.length:Int))=true:=decide_eq_true c20
  clear c20
  by_cases c21:0≤x16_2
  rotate_left
  ·rw [if_neg c21] at H
   exact absurd H (by simp)
  rw [if_pos c21] at H
  have c21b0:decide (0≤x16_2)=true:=decide_eq_true c21
  clear c21
  by_cases c22:((rd_T52 x8_1 x16_2).f0) ≥ x11_1
  rotate_left
  ·skip
   rw [if_neg c22] at H
   have c22b0:decide (x11_1≤((rd_T52 x8_1 x16_2).f0))=false:=decide_eq_false c22
   clear c22
   have H':=Aside0.mk H
   clear H
   have p150:0≤(x16_2:Int):=of_decide_eq_true asm
   have q150:x16_2<(x8_1.length:Int):=of_decide_eq_true asm
   obtain ⟨ad150,A150_2,c150_2,e150,hx150_0,hx150_1,hx150_2,hl150_2,hi150_2⟩:=at_T52 (Kd.N_reads' HO_8.out).2.2 x16_2 p150 q150
   cases e150
   obtain ⟨ce150,hce150,hMe150,hcc150⟩:=Kd.N_get HO_8.out z52 x16_2 p150 (by first|exact q150|exact of_decide_eq_true asm|(have e_:=(Kd.N_reads' HO_8.out).1;omega))
   obtain ⟨ua150_2,uc150_2,rfl,ul150_2,ge150_2⟩:=k52_openF hMe150
   have hv150_2:=hcc150 2 _ rfl
   rw [add_field _ _ 2 (by omega)] at hv150_2
   replace hv150_2:=Option.some.inj (hv150_2.symm.trans hx150_2)
   injection hv150_2 with hva_ hvn_ hvc_
   rw [hva_] at ge150_2
   rw [hvc_] at ul150_2
   have HL150_2:=Aside0.mk (show Kd.V Kd.string 9 _ w.heap.size _ _ ((rd_T52 x8_1 x16_2).f2) from Kd.V_mk ul150_2 ge150_2)
   clear hva_ hvn_ hvc_ ge150_2 ul150_2
   clear hcc150 hce150
   have HR150_2:=Aside0.mk hi150_2
   have HC150_2:=Aside0.mk hl150_2
   clear hi150_2 hl150_2
   replace p150:=eq_true p150
   replace q150:=eq_true q150
   go_wp2
   go_roundg k2
   case measure=>have:=HK1.out;have:=HK2.out;omega
   case rel=>exact ⟨(x14_2),(x15_2),(wrap64 (x16_2+1)),rx,rx,rx,H',⟨by have:=HK1.out;have:=HK2.out;omega⟩,⟨by (try simp only [hl8_1]);(with_reducible repeat (first|apply Kd.N_alloc|apply Kd.N_drewN|apply Kd.N_drew));exact HO_7.out⟩,⟨by (try simp only [hl8_1]);(with_reducible repeat (first|apply Kd.N_alloc|apply Kd.N_drewN|apply Kd.N_drew));exact HO_8.out⟩,⟨by (try simp only [hl8_1]);(with_reducible repeat (first|apply Kd.R_alloc|apply Kd.R_drewN|apply Kd.R_drew));exact HO_9.out⟩,⟨by (try simp only [hl8_1]);(with_reducible repeat (first|apply Kd.R_alloc|apply Kd.R_drewN|apply Kd.R_drew));exact HO_10.out⟩,⟨by repeat (first|(with_reducible first|exact HB.out|apply below_alloc|apply pw_below_drewN|apply below_drew1)|exact HB.out)⟩⟩
  rw [if_pos c22] at H
  have c22b0:decide (x11_1≤((rd_T52 x8_1 x16_2).f0))=true:=decide_eq_true c22
  clear c22
  by_cases c23:((rd_T52 x8_1 x16_2).f0)<x15_2
  rotate_left
  ·skip
   rw [if_neg c23] at H
   have c23b0:decide (((rd_T52 x8_1 x16_2).f0)<x15_2)=false:=decide_eq_false c23
   clear c23
   have H':=Aside0.mk H
   clear H
   have p150:0≤(x16_2:Int):=of_decide_eq_true asm
   have q150:x16_2<(x8_1.length:Int):=of_decide_eq_true asm
   obtain ⟨ad150,A150_2,c150_2,e150,hx150_0,hx150_1,hx150_2,hl150_2,hi150_2⟩:=at_T52 (Kd.N_reads' HO_8.out).2.2 x16_2 p150 q150
   cases e150
   obtain ⟨ce150,hce150,hMe150,hcc150⟩:=Kd.N_get HO_8.out z52 x16_2 p150 (by first|exact q150|exact of_decide_eq_true asm|(have e_:=(Kd.N_reads' HO_8.out).1;omega))
   obtain ⟨ua150_2,uc150_2,rfl,ul150_2,ge150_2⟩:=k52_openF hMe150
   have hv150_2:=hcc150 2 _ rfl
   rw [add_field _ _ 2 (by omega)] at hv150_2
   replace hv150_2:=Option.some.inj (hv150_2.symm.trans hx150_2)
   injection hv150_2 with hva_ hvn_ hvc_
   rw [hva_] at ge150_2
   rw [hvc_] at ul150_2
   have HL150_2:=Aside0.mk (show Kd.V Kd.string 9 _ w.heap.size _ _ ((rd_T52 x8_1 x16_2).f2) from Kd.V_mk ul150_2 ge150_2)
   clear hva_ hvn_ hvc_ ge150_2 ul150_2
   clear hcc150 hce150
   have HR150_2:=Aside0.mk hi150_2
   have HC150_2:=Aside0.mk hl150_2
   clear hi150_2 hl150_2
   replace p150:=eq_true p150
   replace q150:=eq_true q150
   have p151:0≤(x16_2:Int):=of_decide_eq_true asm
   have q151:x16_2<(x8_1.length:Int):=of_decide_eq_true asm
   obtain ⟨ad151,A151_2,c151_2,e151,hx151_0,hx151_1,hx151_2,hl151_2,hi151_2⟩:=at_T52 (Kd.N_reads' HO_8.out).2.2 x16_2 p151 q151
   obtain rfl:ad150=ad151:=(by injection e151)
   obtain ⟨ce151,hce151,hMe151,hcc151⟩:=Kd.N_get HO_8.out z52 x16_2 p151 (by first|exact q151|exact of_decide_eq_true asm|(have e_:=(Kd.N_reads' HO_8.out).1;omega))
   obtain ⟨ua151_2,uc151_2,rfl,ul151_2,ge151_2⟩:=k52_openF hMe151
   have hv151_2:=hcc151 2 _ rfl
   rw [add_field _ _ 2 (by omega)] at hv151_2
   replace hv151_2:=Option.some.inj (hv151_2.symm.trans hx151_2)
   injection hv151_2 with hva_ hvn_ hvc_
   rw [hva_] at ge151_2
   rw [hvc_] at ul151_2
   have HL151_2:=Aside0.mk (show Kd.V Kd.string 9 _ w.heap.size _ _ ((rd_T52 x8_1 x16_2).f2) from Kd.V_mk ul151_2 ge151_2)
   clear hva_ hvn_ hvc_ ge151_2 ul151_2
   clear hcc151 hce151
   have HR151_2:=Aside0.mk hi151_2
   have HC151_2:=Aside0.mk hl151_2
   clear hi151_2 hl151_2
   replace p151:=eq_true p151
   replace q151:=eq_true q151
   have ea_:=Option.some.inj (hx150_2.symm.trans hx151_2)
   injection ea_ with ea_ en_ ec_
   subst ea_
   subst ec_
   clear en_
   go_wp2
   go_roundg k2
   case measure=>have:=HK1.out;have:=HK2.out;omega
   case rel=>exact ⟨(x14_2),(x15_2),(wrap64 (x16_2+1)),rx,rx,rx,H',⟨by have:=HK1.out;have:=HK2.out;omega⟩,⟨by (try simp only [hl8_1]);(with_reducible repeat (first|apply Kd.N_alloc|apply Kd.N_drewN|apply Kd.N_drew));exact HO_7.out⟩,⟨by (try simp only [hl8_1]);(with_reducible repeat (first|apply Kd.N_alloc|apply Kd.N_drewN|apply Kd.N_drew));exact HO_8.out⟩,⟨by (try simp only [hl8_1]);(with_reducible repeat (first|apply Kd.R_alloc|apply Kd.R_drewN|apply Kd.R_drew));exact HO_9.out⟩,⟨by (try simp only [hl8_1]);(with_reducible repeat (first|apply Kd.R_alloc|apply Kd.R_drewN|apply Kd.R_drew));exact HO_10.out⟩,⟨by repeat (first|(with_reducible first|exact HB.out|apply below_alloc|apply pw_below_drewN|apply below_drew1)|exact HB.out)⟩⟩
  skip
  rw [if_pos c23] at H
  have c23b0:decide (((rd_T52 x8_1 x16_2).f0)<x15_2)=true:=decide_eq_true c23
  clear c23
  have H':=Aside0.mk H
  clear H
  have p150:0≤(x16_2:Int):=of_decide_eq_true asm
  have q150:x16_2<(x8_1.length:Int):=of_decide_eq_true asm
  obtain ⟨ad150,A150_2,c150_2,e150,hx150_0,hx150_1,hx150_2,hl150_2,hi150_2⟩:=at_T52 (Kd.N_reads' HO_8.out).2.2 x16_2 p150 q150
  cases e150
  obtain ⟨ce150,hce150,hMe150,hcc150⟩:=Kd.N_get HO_8.out z52 x16_2 p150 (by first|exact q150|exact of_decide_eq_true asm|(have e_:=(Kd.N_reads' HO_8.out).1;omega))
  obtain ⟨ua150_2,uc150_2,rfl,ul150_2,ge150_2⟩:=k52_openF hMe150
  have hv150_2:=hcc150 2 _ rfl
  rw [add_field _ _ 2 (by omega)] at hv150_2
  replace hv150_2:=Option.some.inj (hv150_2.symm.trans hx150_2)
  injection hv150_2 with hva_ hvn_ hvc_
  rw [hva_] at ge150_2
  rw [hvc_] at ul150_2
  have HL150_2:=Aside0.mk (show Kd.V Kd.string 9 _ w.heap.size _ _ ((rd_T52 x8_1 x16_2).f2) from Kd.V_mk ul150_2 ge150_2)
  clear hva_ hvn_ hvc_ ge150_2 ul150_2
  clear hcc150 hce150
  have HR150_2:=Aside0.mk hi150_2
  have HC150_2:=Aside0.mk hl150_2
  clear hi150_2 hl150_2
  replace p150:=eq_true p150
  replace q150:=eq_true q150
  have p151:0≤(x16_2:Int):=of_decide_eq_true asm
  have q151:x16_2<(x8_1.length:Int):=of_decide_eq_true asm
  obtain ⟨ad151,A151_2,c151_2,e151,hx151_0,hx151_1,hx151_2,hl151_2,hi151_2⟩:=at_T52 (Kd.N_reads' HO_8.out).2.2 x16_2 p151 q151
  obtain rfl:ad150=ad151:=(by injection e151)
  obtain ⟨ce151,hce151,hMe151,hcc151⟩:=Kd.N_get HO_8.out z52 x16_2 p151 (by first|exact q151|exact of_decide_eq_true asm|(have e_:=(Kd.N_reads' HO_8.out).1;omega))
  obtain ⟨ua151_2,uc151_2,rfl,ul151_2,ge151_2⟩:=k52_openF hMe151
  have hv151_2:=hcc151 2 _ rfl
  rw [add_field _ _ 2 (by omega)] at hv151_2
  replace hv151_2:=Option.some.inj (hv151_2.symm.trans hx151_2)
  injection hv151_2 with hva_ hvn_ hvc_
  rw [hva_] at ge151_2
  rw [hvc_] at ul151_2
  have HL151_2:=Aside0.mk (show Kd.V Kd.string 9 _ w.heap.size _ _ ((rd_T52 x8_1 x16_2).f2) from Kd.V_mk ul151_2 ge151_2)
  clear hva_ hvn_ hvc_ ge151_2 ul151_2
  clear hcc151 hce151
  have HR151_2:=Aside0.mk hi151_2
  have HC151_2:=Aside0.mk hl151_2
  clear hi151_2 hl151_2
  replace p151:=eq_true p151
  replace q151:=eq_true q151
  have ea_:=Option.some.inj (hx150_2.symm.trans hx151_2)
  injection ea_ with ea_ en_ ec_
  subst ea_
  subst ec_
  clear en_
  have p152:0≤(x16_2:Int):=of_decide_eq_true asm
  have q152:x16_2<(x8_1.length:Int):=of_decide_eq_true asm
  obtain ⟨ad152,A152_2,c152_2,e152,hx152_0,hx152_1,hx152_2,hl152_2,hi152_2⟩:=at_T52 (Kd.N_reads' HO_8.out).2.2 x16_2 p152 q152
  obtain rfl:ad150=ad152:=(by injection e152)
  obtain ⟨ce152,hce152,hMe152,hcc152⟩:=Kd.N_get HO_8.out z52 x16_2 p152 (by first|exact q152|exact of_decide_eq_true asm|(have e_:=(Kd.N_reads' HO_8.out).1;omega))
  obtain ⟨ua152_2,uc152_2,rfl,ul152_2,ge152_2⟩:=k52_openF hMe152
  have hv152_2:=hcc152 2 _ rfl
  rw [add_field _ _ 2 (by omega)] at hv152_2
  replace hv152_2:=Option.some.inj (hv152_2.symm.trans hx152_2)
  injection hv152_2 with hva_ hvn_ hvc_
  rw [hva_] at ge152_2
  rw [hvc_] at ul152_2
  have HL152_2:=Aside0.mk (show Kd.V Kd.string 9 _ w.heap.size _ _ ((rd_T52 x8_1 x16_2).f2) from Kd.V_mk ul152_2 ge152_2)
  clear hva_ hvn_ hvc_ ge152_2 ul152_2
  clear hcc152 hce152
  have HR152_2:=Aside0.mk hi152_2
  have HC152_2:=Aside0.mk hl152_2
  clear hi152_2 hl152_2
  replace p152:=eq_true p152
  replace q152:=eq_true q152
  have ea_:=Option.some.inj (hx150_2.symm.trans hx152_2)
  injection ea_ with ea_ en_ ec_
  subst ea_
  subst ec_
  clear en_
  go_wp2
  go_roundg k2
  case measure=>have:=HK1.out;have:=HK2.out;omega
  case rel=>exact ⟨(x16_2),((rd_T52 x8_1 x16_2).f0),(wrap64 (x16_2+1)),rx,rx,rx,H',⟨by have:=HK1.out;have:=HK2.out;omega⟩,⟨by (try simp only [hl8_1]);(with_reducible repeat (first|apply Kd.N_alloc|apply Kd.N_drewN|apply Kd.N_drew));exact HO_7.out⟩,⟨by (try simp only [hl8_1]);(with_reducible repeat (first|apply Kd.N_alloc|apply Kd.N_drewN|apply Kd.N_drew));exact HO_8.out⟩,⟨by (try simp only [hl8_1]);(with_reducible repeat (first|apply Kd.R_alloc|apply Kd.R_drewN|apply Kd.R_drew));exact HO_9.out⟩,⟨by (try simp only [hl8_1]);(with_reducible repeat (first|apply Kd.R_alloc|apply Kd.R_drewN|apply Kd.R_drew));exact HO_10.out⟩,⟨by repeat (first|(with_reducible first|exact HB.out|apply below_alloc|apply pw_below_drewN|apply below_drew1)|exact HB.out)⟩⟩
 ⟩
end Go.Proofs.Ytnmphfelebkaiaa.Pr
-- shrunk
