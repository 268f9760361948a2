import Derived.Test.YtnmphfelebkaiaaD6p1652
set_option linter.unusedVariables false
set_option linter.unusedSimpArgs false
namespace Go.Proofs.Ytnmphfelebkaiaa.Pr
open Go.RowKit Go.Proofs.YtnmphfelebkaiaaW.PrintWords Go.Proofs.YtnmphfelebkaiaaW.PrintLast Go.Proofs.YtnmphfelebkaiaaW.PrintMore
attribute [local go_sem] max2_int min2_int max_two min_two max_three min_three max_four min_four

set_option maxHeartbeats 0 in
set_option maxRecDepth 100000 in
noncomputable def r08_Regions.calls.p1985:PSigma fun G2093:Prop=>(Held G2093→(r08_Regions.calls.p1652).1):=⟨_,by
 intro g2093
 intro k A0 c0 l0 A1 c1 l1 A2 c2 l2 r w hu30 hu32 HR0 HC0 HR1 HC1 HR2 HC2 t132 A4 y135 Ny135 LMc5 y138 Ny138 t141 A6 LMc7 y144 Ny144 t147 A8 qa0 w9 v136 w10 Ao13 co13 v139 w12 w14 Ao16 co16 w15 Ao17 co17 w18 v148 HO134 HO143 HO146 HO149 qa2 qa3 qa4 u6 qb0 qb1 u18 qc0 qc1 qc2 qc3 u23 u24 qb2 qb3 qb4 qb5 qb6 qb7 qb8 qb9 qb10 qb11 qb12 qb13 qb14 qb15 qb16 qb17 qb18 qb19 qb20 qb21 qb22 qb23 qb24 qb25 qb26 qb27 qb28 qb29 qb30 qb31 qb32 qb33 qb34 qb35 qb36 qb37 qb38 qb39 qb40 qb41 qb42 qb43 qb44 qb45 qb46 qb47 qb48 qb49 qb50 qb51 qb52 qb53 qb54 qb55 qb56 qb57 qb58 qb59 qb60 qb61 qb62 qb63 qb64 qb65 qb66 qb67 qb68 qb69 qb70 qb71 qb72 qb73 qb74 qb75 qb76 qb77 qb78 qb79 qb80 qb81 qb82 qb83 qb84 qb85 qb86 qb87 qb88 qb89 qb90 qb91 qb92 qb93 qb94 qb95 qb96 qb97 qb98 qb99 qb100 qb101 qb102 qb103 qb104 qb105 qb106 qb107 qb108 qb109 qb110 qb111 qb112 qb113 qb114 qb115 qb116 qb117 qb118 qb119 qb120 qb121 qb122 qb123 qb124 qb125 qb126 qb127 qb128 qb129 qb130 qb131 qb132 qb133 qb134 qb135 qb136 qb137 qb138 qb139 qb140 qb141 qb142 qb143 qb144 qb145 qb146 qb147 qb148 qb149 qb150 qb151 qb152 qb153 qb154 qb155 qb156 qb157 qb158 qb159 qb160 qb161 qb162 qb163 qb164 qb165 qb166 qb167 qb168 qb169 qb170 qb171 qb172 qb173 qb174 qb175 qb176 qb177 qb178 qb179 qb180 qb181 qb182 qb183 qb184 qb185 qb186 qb187 qb188 qb189 qb190 qb191 qb192 qb193 qb194 qb195 qb196 qb197 qb198 qb199 qb200 qb201 qb202 qb203 qb204 qb205 qb206 qa5 qa6 qa7 x8_1 x10_1 x11_1 x12_1 x13_1 hl8_1 k1 qa8 HK1 c19b0 qa9 qa11 qa12 qa13 x14_2 x15_2 x16_2 k2 qa14 HK2 c20b0 qb220 x80_23 kj23 HJ23 u10 u17 qe0 qe1 qe2 qe3 qe4 qe5 qe6 qe7 qe8 qe9 qe10 qe11 qe12 qe13 qe14 qe15 qe16 qe17 qe18 qe19 qe20 qe21 qe22 qe23 qe24 qe25 qe26 qe27 qe28 qe29 qe30 qe31 qe32 qe33 qe34 qe35 qe36 qe37 qe38 qe39 qe40 qe41 qe42 qe43 qe44 qe45 qe46 qe47 qe48 qe49 qe50 qe51 qe52 qe53 qe54 qe55 qe56 qe57 qe58 qe59 qe60 qe61 qe62 qe63 qe64 qe65 qe66 qe67 qe68 qe69 qe70 qe71 qe72 qe73 qe74 qe75 qe76 qe77 qe78 qe79 qe80 qe81 qe82 qe83 qe84 qe85 qe86 qe87 qe88 qe89 qe90 qe91 qe92 qe93 qe94 qe95 qe96 qe97 qe98 qe99 qe100 qe101 qe102 qe103 qe104 qe105 qe106 qe107 qe108 qe109 qe110 qe111 qe112 qe113 qe114 qe115 qe116 qe117 qe118 qe119 qe120 qe121 qe122 qe123 qe124 qe125 qe126 qe127 qe128 qe129 qe130 qe131 qe132 qe133 qe134 qe135 qe136 qe137 qe138 qe139 qe140 qe141 qe142 qe143 qe144 qe145 qe146 qe147 qe148 qe149 qe150 qe151 qe152 qe153 qe154 qe155 qe156 qe157 qe158 qe159 qe160 qe161 x10_25 x12_25 x13_25 kj25 HJ25 c31b0 gb156 w32 GW156 GE156 hcz33_0 hcz33_1 hcz33_2 hcz33_3 hcz33_4 hcz33_5 hcz33_6 hfz33_0 hfz33_1 hfz33_2 hfz33_3 hfz33_4 hfz33_5 hfz33_6 qc9 wr qc11 qc12 qc13 x19_5 x20_5 x21_5 x22_5 x157004_5 x157006_5 k5 qc14 HK5 c34b0 c54b0 c54b1 c55 c55b0 c55b1 c56 c56b0 c56b1 c57b0 c57b1 c58 c58b0 c58b1 c59 c59b0 c59b1 t167 A60 HC61 hcz62_0 hcz62_1 hcz62_2 hcz62_3 hcz62_4 hcz62_5 hcz62_6 hfz62_0 hfz62_1 hfz62_2 hfz62_3 hfz62_4 hfz62_5 hfz62_6 w63 i065 A65 hcut65 HR165 HC165 i066 A66 hcut66 HR166 HC166 HT_ HW_ w64 w67 HO_7 HO_8 HO_9 HO_10 BK156 HB hHeld hcz68_0 hcz68_1 hcz68_2 hcz68_3 hcz68_4 hcz68_5 hcz68_6 hfz68_0 hfz68_1 hfz68_2 hfz68_3 hfz68_4 hfz68_5 hfz68_6 qe168 qe169 wc u37 u38 u39 u40 u41 u42 u43 u44 u45 u46 u47 u48 u49 u50 u51 u52 u53 u54 u55 u56 u57 u58 u59 u60 u61 u62 u63 u64 u65 u66 u67 u68 u69 u70 u71 u72 u73 u74 u75 u76 u77 u78 u79 u80 u81 u82 u83 u84 u85 u86 u87 u88 u89 u90 u91 u92 u93 u94 u95 u96 u97 u98 u99 u100 u101 u102 u103 u104 u105 u106 u107 u108 u109 u110 u111 u112 u113 u114 u115 u116 u117 u118 u119 u120 u121 u122 u123 u124 u125 u126 u127 u128 u129 u130 u131 u132 u133 u134 u135 u136 u137 u138 u139 u140 u141 u142 u143 u144 u145 u146 u147 u148 u149 u150 u151 u152 u153 u154 u155 u156 u157 u158 u159 u160 u161 u162 u163 u164 u165 u166 u167 u168 u169 u170 u171 u172 u173 u174 u175 u176 u177 u178 u179 u180 u181 u182 u183 u184 u185 u186 u187 u188 u189 u190 u191 u192 u193 u194 u195 u196 u197 u198 u199 u200 u201 u202 u203 u204 u205 u206 u207 u208 u209 u210 u211 u212 u213 u214 u215 u216 u217 u218 u219 u220 u221 u222 u223 u224 u225 u226 u227 u228 u229 u230 u231 u232 u233 u234 u235 u236 u237 u238 u239 u240 u241 u242 u243 u244 u245 u246 u247 u248 u249 u250 u251 u252 u253 u254 u255 u256 u257 u258 u259 u260 u261 u262 u263 u264 u265 u266 u267 u268 u269 u270 u271 u272 u273 u274 u275 u276 hcut
 clear HC61
 obtain ⟨kq,x157000_60,HA,HJ60,HO_7,HO_8,HO_9,HO_10,BK156,HB⟩:=hcut
 cases kq with
 | zero=>exact absurd HA.out (by simp [r08_Regions.j5])
 | succ kj60 =>
  have H:=HA.out
  clear HA
  simp only [r08_Regions.j5] at H
  have HC71:=Aside0.mk H
  clear H
  go_upto_if 229 with (fail)
  go_cut [] (fun wc=>∃ (kq:Nat) (x157000_70:Int),Aside0 (r08_Regions.j6 kq l0 l1 l2 t132 x8_1 t147 x10_25 x12_25 x13_25 x14_2 x19_5 x20_5 x157000_70 x15_2 (wrap64 (x19_5 - x15_2)) x12_25 (wrap64 ((wrap64 (x157004_5+x19_5)) - x15_2)) x13_25 (wrap64 ((wrap64 (x157006_5+x19_5)) - x15_2))=some r)∧Aside0 (kq≤kj60)∧Aside0 (Kd.N k52 52 wc w.heap.size (fun k_=>some k_≠((.slice Ao17 x8_1.length co17):Value).ownBlock∧some k_≠(v148:Value).ownBlock∧some k_≠(u10:Value).ownBlock∧k_≠gb156) (.slice Ao13 t132.length co13) t132)∧Aside0 (Kd.N k52 52 wc w.heap.size (fun k_=>some k_≠(v148:Value).ownBlock∧some k_≠(u10:Value).ownBlock∧k_≠gb156) (.slice Ao17 x8_1.length co17) x8_1)∧Aside0 (Kd.R (Kd.int .i64) 3 wc w.heap.size (fun _=>True) v148 t147)∧Aside0 (Kd.R k32 32 wc w.heap.size (fun k_=>k_≠gb156) u10 x10_25)∧Aside0 (wc.heap[gb156]?=some (.cells #[.int .i64 x157000_70,.int .i64 x15_2,.int .i64 (wrap64 (x19_5 - x15_2)),.int .i64 x12_25,.int .i64 (wrap64 ((wrap64 (x157004_5+x19_5)) - x15_2)),.int .i64 x13_25,.int .i64 (wrap64 ((wrap64 (x157006_5+x19_5)) - x15_2))] 32 (0,0)))∧Aside0 (Below w.heap.size w wc))
  case first =>
   have H:=HC71.out
   clear HC71
   by_cases c72:x21_5=true
   ·skip
    subst c72
    have H1:(r08_Regions.j6 kj60 l0 l1 l2 t132 x8_1 t147 x10_25 x12_25 x13_25 x14_2 x19_5 x20_5 x157000_60 x15_2 (wrap64 (x19_5 - x15_2)) x12_25 (wrap64 ((wrap64 (x157004_5+x19_5)) - x15_2)) x13_25 (wrap64 ((wrap64 (x157006_5+x19_5)) - x15_2)))=some r:=by rw [if_pos rfl] at H;exact H
    clear H
    have H:=H1
    clear H1
    have H':=Aside0.mk H
    clear H
    go_wp2
    go_meet
    case rel=>exact ⟨_,(x157000_60),H',⟨by have:=HK1.out;have:=HK2.out;have:=HJ23.out;have:=HJ25.out;have:=HK5.out;have:=HJ60.out;first|omega|exact Nat.le_refl _⟩,⟨by (try simp only [hl8_1]);(with_reducible repeat (first|apply Kd.N_alloc|apply Kd.N_drewN|apply Kd.N_drew));exact HO_7.out⟩,⟨by (try simp only [hl8_1]);(with_reducible repeat (first|apply Kd.N_alloc|apply Kd.N_drewN|apply Kd.N_drew));exact HO_8.out⟩,⟨by (try simp only [hl8_1]);(with_reducible repeat (first|apply Kd.R_alloc|apply Kd.R_drewN|apply Kd.R_drew));exact HO_9.out⟩,⟨by (try simp only [hl8_1]);(with_reducible repeat (first|apply Kd.R_alloc|apply Kd.R_drewN|apply Kd.R_drew));exact HO_10.out⟩,⟨by (try simp only [hl8_1]);(with_reducible repeat (first|refine blk_drewN ?_ _|refine blk_drew ?_|refine blk_alloc ?_ _));exact BK156.out⟩,⟨by repeat (first|(with_reducible first|exact HB.out|apply below_alloc|apply pw_below_drewN|apply below_drew1|refine below_set ?_ GE156.out)|exact HB.out)⟩⟩
   skip
   replace c72:=Bool.eq_false_iff.mpr c72
   subst c72
   have H1:(r08_Regions.j6 kj60 l0 l1 l2 t132 x8_1 t147 x10_25 x12_25 x13_25 x14_2 x19_5 x20_5 1 x15_2 (wrap64 (x19_5 - x15_2)) x12_25 (wrap64 ((wrap64 (x157004_5+x19_5)) - x15_2)) x13_25 (wrap64 ((wrap64 (x157006_5+x19_5)) - x15_2)))=some r:=by rw [if_neg (show ¬ (false=true) by decide)] at H;exact H
   clear H
   have H:=H1
   clear H1
   have H':=Aside0.mk H
   clear H
   have hcz73_0:wc.cell? ⟨gb156,0,none⟩=some (.int .i64 x157000_60):=(blk_cell BK156.out 0).trans rfl
   have hcz73_1:wc.cell? ⟨gb156,1,none⟩=some (.int .i64 x15_2):=(blk_cell BK156.out 1).trans rfl
   have hcz73_2:wc.cell? ⟨gb156,2,none⟩=some (.int .i64 (wrap64 (x19_5 - x15_2))):=(blk_cell BK156.out 2).trans rfl
   have hcz73_3:wc.cell? ⟨gb156,3,none⟩=some (.int .i64 x12_25):=(blk_cell BK156.out 3).trans rfl
   have hcz73_4:wc.cell? ⟨gb156,4,none⟩=some (.int .i64 (wrap64 ((wrap64 (x157004_5+x19_5)) - x15_2))):=(blk_cell BK156.out 4).trans rfl
   have hcz73_5:wc.cell? ⟨gb156,5,none⟩=some (.int .i64 x13_25):=(blk_cell BK156.out 5).trans rfl
   have hcz73_6:wc.cell? ⟨gb156,6,none⟩=some (.int .i64 (wrap64 ((wrap64 (x157006_5+x19_5)) - x15_2))):=(blk_cell BK156.out 6).trans rfl
   have hfz73_0:=blk_frozen BK156.out 0
   have hfz73_1:=blk_frozen BK156.out 1
   have hfz73_2:=blk_frozen BK156.out 2
   have hfz73_3:=blk_frozen BK156.out 3
   have hfz73_4:=blk_frozen BK156.out 4
   have hfz73_5:=blk_frozen BK156.out 5
   have hfz73_6:=blk_frozen BK156.out 6
   go_wp2
   go_meet
   case rel=>exact ⟨_,(1),H',⟨by have:=HK1.out;have:=HK2.out;have:=HJ23.out;have:=HJ25.out;have:=HK5.out;have:=HJ60.out;first|omega|exact Nat.le_refl _⟩,⟨by (try simp only [hl8_1]);(with_reducible repeat (first|apply Kd.N_alloc|apply Kd.N_drewN|apply Kd.N_drew));exact Kd.N_mono (Kd.N_far (p:=⟨gb156,0,none⟩) (Kd.N_mono HO_7.out (fun k_ hk=>(⟨hk,hk.2.2.2⟩:_∧k_≠gb156))) (fun _ hk=>hk.2) (.int .i64 1)) (fun _ hk=>⟨hk.1.1,⟨hk.1.2.1,⟨hk.1.2.2.1,hk.1.2.2.2⟩⟩⟩)⟩,⟨by (try simp only [hl8_1]);(with_reducible repeat (first|apply Kd.N_alloc|apply Kd.N_drewN|apply Kd.N_drew));exact Kd.N_mono (Kd.N_far (p:=⟨gb156,0,none⟩) (Kd.N_mono HO_8.out (fun k_ hk=>(⟨hk,hk.2.2⟩:_∧k_≠gb156))) (fun _ hk=>hk.2) (.int .i64 1)) (fun _ hk=>⟨hk.1.1,⟨hk.1.2.1,hk.1.2.2⟩⟩)⟩,⟨by (try simp only [hl8_1]);(with_reducible repeat (first|apply Kd.R_alloc|apply Kd.R_drewN|apply Kd.R_drew));exact Kd.R_mono (Kd.R_far (p:=⟨gb156,0,none⟩) (Kd.R_types HO_9.out BK156.out (by decide)) (fun _ hk=>hk.2) (.int .i64 1)) (fun _ hk=>trivial)⟩,⟨by (try simp only [hl8_1]);(with_reducible repeat (first|apply Kd.R_alloc|apply Kd.R_drewN|apply Kd.R_drew));exact Kd.R_mono (Kd.R_far (p:=⟨gb156,0,none⟩) (Kd.R_mono HO_10.out (fun k_ hk=>(⟨hk,hk⟩:_∧k_≠gb156))) (fun _ hk=>hk.2) (.int .i64 1)) (fun _ hk=>hk.1)⟩,⟨by (try simp only [hl8_1]);(with_reducible repeat (first|refine blk_drewN ?_ _|refine blk_drew ?_|refine blk_alloc ?_ _));refine blk_put (cs:=#[.int .i64 x157000_60,.int .i64 x15_2,.int .i64 (wrap64 (x19_5 - x15_2)),.int .i64 x12_25,.int .i64 (wrap64 ((wrap64 (x157004_5+x19_5)) - x15_2)),.int .i64 x13_25,.int .i64 (wrap64 ((wrap64 (x157006_5+x19_5)) - x15_2))]) ?_ 0 _ rfl;(with_reducible repeat (first|refine blk_drewN ?_ _|refine blk_drew ?_|refine blk_alloc ?_ _));exact BK156.out⟩,⟨by repeat (first|(with_reducible first|exact HB.out|apply below_alloc|apply pw_below_drewN|apply below_drew1|refine below_set ?_ GE156.out)|exact HB.out)⟩⟩
  case rest =>
   clear HC71
   obtain ⟨kq,x157000_70,HA,HJ70,HO_7,HO_8,HO_9,HO_10,BK156,HB⟩:=hcut
   cases kq with
   | zero=>exact absurd HA.out (by simp [r08_Regions.j6])
   | succ kj70 =>
    have H:=HA.out
    clear HA
    simp only [r08_Regions.j6] at H
    have HC74:=Aside0.mk H
    clear H
    go_upto_if 232 with (fail)
    go_cut [] (fun wc=>∃ (kq:Nat) (x157000_73:Int),Aside0 (r08_Regions.j7 kq l0 l1 l2 t132 x8_1 t147 x10_25 x12_25 x13_25 x14_2 x19_5 x157000_73 x15_2 (wrap64 (x19_5 - x15_2)) x12_25 (wrap64 ((wrap64 (x157004_5+x19_5)) - x15_2)) x13_25 (wrap64 ((wrap64 (x157006_5+x19_5)) - x15_2))=some r)∧Aside0 (kq≤kj70)∧Aside0 (Kd.N k52 52 wc w.heap.size (fun k_=>some k_≠((.slice Ao17 x8_1.length co17):Value).ownBlock∧some k_≠(v148:Value).ownBlock∧some k_≠(u10:Value).ownBlock∧k_≠gb156) (.slice Ao13 t132.length co13) t132)∧Aside0 (Kd.N k52 52 wc w.heap.size (fun k_=>some k_≠(v148:Value).ownBlock∧some k_≠(u10:Value).ownBlock∧k_≠gb156) (.slice Ao17 x8_1.length co17) x8_1)∧Aside0 (Kd.R (Kd.int .i64) 3 wc w.heap.size (fun _=>True) v148 t147)∧Aside0 (Kd.R k32 32 wc w.heap.size (fun k_=>k_≠gb156) u10 x10_25)∧Aside0 (wc.heap[gb156]?=some (.cells #[.int .i64 x157000_73,.int .i64 x15_2,.int .i64 (wrap64 (x19_5 - x15_2)),.int .i64 x12_25,.int .i64 (wrap64 ((wrap64 (x157004_5+x19_5)) - x15_2)),.int .i64 x13_25,.int .i64 (wrap64 ((wrap64 (x157006_5+x19_5)) - x15_2))] 32 (0,0)))∧Aside0 (Below w.heap.size w wc))
    case first =>
     have H:=HC74.out
     clear HC74
     by_cases c75:x20_5=true
     ·skip
      subst c75
      have H1:(r08_Regions.j7 kj70 l0 l1 l2 t132 x8_1 t147 x10_25 x12_25 x13_25 x14_2 x19_5 x157000_70 x15_2 (wrap64 (x19_5 - x15_2)) x12_25 (wrap64 ((wrap64 (x157004_5+x19_5)) - x15_2)) x13_25 (wrap64 ((wrap64 (x157006_5+x19_5)) - x15_2)))=some r:=by rw [if_pos rfl] at H;exact H
      clear H
      have H:=H1
      clear H1
      have H':=Aside0.mk H
      clear H
      go_wp2
      go_meet
      case rel=>exact ⟨_,(x157000_70),H',⟨by have:=HK1.out;have:=HK2.out;have:=HJ23.out;have:=HJ25.out;have:=HK5.out;have:=HJ60.out;have:=HJ70.out;first|omega|exact Nat.le_refl _⟩,⟨by (try simp only [hl8_1]);(with_reducible repeat (first|apply Kd.N_alloc|apply Kd.N_drewN|apply Kd.N_drew));exact HO_7.out⟩,⟨by (try simp only [hl8_1]);(with_reducible repeat (first|apply Kd.N_alloc|apply Kd.N_drewN|apply Kd.N_drew));exact HO_8.out⟩,⟨by (try simp only [hl8_1]);(with_reducible repeat (first|apply Kd.R_alloc|apply Kd.R_drewN|apply Kd.R_drew));exact HO_9.out⟩,⟨by (try simp only [hl8_1]);(with_reducible repeat (first|apply Kd.R_alloc|apply Kd.R_drewN|apply Kd.R_drew));exact HO_10.out⟩,⟨by (try simp only [hl8_1]);(with_reducible repeat (first|refine blk_drewN ?_ _|refine blk_drew ?_|refine blk_alloc ?_ _));exact BK156.out⟩,⟨by repeat (first|(with_reducible first|exact HB.out|apply below_alloc|apply pw_below_drewN|apply below_drew1|refine below_set ?_ GE156.out)|exact HB.out)⟩⟩
     skip
     replace c75:=Bool.eq_false_iff.mpr c75
     subst c75
     have H1:(r08_Regions.j7 kj70 l0 l1 l2 t132 x8_1 t147 x10_25 x12_25 x13_25 x14_2 x19_5 2 x15_2 (wrap64 (x19_5 - x15_2)) x12_25 (wrap64 ((wrap64 (x157004_5+x19_5)) - x15_2)) x13_25 (wrap64 ((wrap64 (x157006_5+x19_5)) - x15_2)))=some r:=by rw [if_neg (show ¬ (false=true) by decide)] at H;exact H
     clear H
     have H:=H1
     clear H1
     have H':=Aside0.mk H
     clear H
     have hcz76_0:wc.cell? ⟨gb156,0,none⟩=some (.int .i64 x157000_70):=(blk_cell BK156.out 0).trans rfl
     have hcz76_1:wc.cell? ⟨gb156,1,none⟩=some (.int .i64 x15_2):=(blk_cell BK156.out 1).trans rfl
     have hcz76_2:wc.cell? ⟨gb156,2,none⟩=some (.int .i64 (wrap64 (x19_5 - x15_2))):=(blk_cell BK156.out 2).trans rfl
     have hcz76_3:wc.cell? ⟨gb156,3,none⟩=some (.int .i64 x12_25):=(blk_cell BK156.out 3).trans rfl
     have hcz76_4:wc.cell? ⟨gb156,4,none⟩=some (.int .i64 (wrap64 ((wrap64 (x157004_5+x19_5)) - x15_2))):=(blk_cell BK156.out 4).trans rfl
     have hcz76_5:wc.cell? ⟨gb156,5,none⟩=some (.int .i64 x13_25):=(blk_cell BK156.out 5).trans rfl
     have hcz76_6:wc.cell? ⟨gb156,6,none⟩=some (.int .i64 (wrap64 ((wrap64 (x157006_5+x19_5)) - x15_2))):=(blk_cell BK156.out 6).trans rfl
     have hfz76_0:=blk_frozen BK156.out 0
     have hfz76_1:=blk_frozen BK156.out 1
     have hfz76_2:=blk_frozen BK156.out 2
     have hfz76_3:=blk_frozen BK156.out 3
     have hfz76_4:=blk_frozen BK156.out 4
     have hfz76_5:=blk_frozen BK156.out 5
     have hfz76_6:=blk_frozen BK156.out 6
     go_wp2
     go_meet
     case rel=>exact ⟨_,(2),H',⟨by have:=HK1.out;have:=HK2.out;have:=HJ23.out;have:=HJ25.out;have:=HK5.out;have:=HJ60.out;have:=HJ70.out;first|omega|exact Nat.le_refl _⟩,⟨by (try simp only [hl8_1]);(with_reducible repeat (first|apply Kd.N_alloc|apply Kd.N_drewN|apply Kd.N_drew));exact Kd.N_mono (Kd.N_far (p:=⟨gb156,0,none⟩) (Kd.N_mono HO_7.out (fun k_ hk=>(⟨hk,hk.2.2.2⟩:_∧k_≠gb156))) (fun _ hk=>hk.2) (.int .i64 2)) (fun _ hk=>⟨hk.1.1,⟨hk.1.2.1,⟨hk.1.2.2.1,hk.1.2.2.2⟩⟩⟩)⟩,⟨by (try simp only [hl8_1]);(with_reducible repeat (first|apply Kd.N_alloc|apply Kd.N_drewN|apply Kd.N_drew));exact Kd.N_mono (Kd.N_far (p:=⟨gb156,0,none⟩) (Kd.N_mono HO_8.out (fun k_ hk=>(⟨hk,hk.2.2⟩:_∧k_≠gb156))) (fun _ hk=>hk.2) (.int .i64 2)) (fun _ hk=>⟨hk.1.1,⟨hk.1.2.1,hk.1.2.2⟩⟩)⟩,⟨by (try simp only [hl8_1]);(with_reducible repeat (first|apply Kd.R_alloc|apply Kd.R_drewN|apply Kd.R_drew));exact Kd.R_mono (Kd.R_far (p:=⟨gb156,0,none⟩) (Kd.R_types HO_9.out BK156.out (by decide)) (fun _ hk=>hk.2) (.int .i64 2)) (fun _ hk=>trivial)⟩,⟨by (try simp only [hl8_1]);(with_reducible repeat (first|apply Kd.R_alloc|apply Kd.R_drewN|apply Kd.R_drew));exact Kd.R_mono (Kd.R_far (p:=⟨gb156,0,none⟩) (Kd.R_mono HO_10.out (fun k_ hk=>(⟨hk,hk⟩:_∧k_≠gb156))) (fun _ hk=>hk.2) (.int .i64 2)) (fun _ hk=>hk.1)⟩,⟨by (try simp only [hl8_1]);(with_reducible repeat (first|refine blk_drewN ?_ _|refine blk_drew ?_|refine blk_alloc ?_ _));refine blk_put (cs:=#[.int .i64 x157000_70,.int .i64 x15_2,.int .i64 (wrap64 (x19_5 - x15_2)),.int .i64 x12_25,.int .i64 (wrap64 ((wrap64 (x157004_5+x19_5)) - x15_2)),.int .i64 x13_25,.int .i64 (wrap64 ((wrap64 (x157006_5+x19_5)) - x15_2))]) ?_ 0 _ rfl;(with_reducible repeat (first|refine blk_drewN ?_ _|refine blk_drew ?_|refine blk_alloc ?_ _));exact BK156.out⟩,⟨by repeat (first|(with_reducible first|exact HB.out|apply below_alloc|apply pw_below_drewN|apply below_drew1|refine below_set ?_ GE156.out)|exact HB.out)⟩⟩
    case rest =>
     rename_i x0 x1 x2 x3 x4 x5 _ _ _ _ _ _ _ _ _ _ _ _ _ _ _ _ _ _ _ _ _ _ _ _ _ _ _ _ _ _ _ _ _ _ _ _ _ _ _ _ _ _ _ _ _ _ _ _ _ _ _ _ _ _ _ _ _ _ _ _ _ _ _ _ _ _ _ _ _ _ _ _ _ _ _ _ _ _ _ _ _ _ _ _ _ _ _ _ _ _ _ _ _ _ _ _ _ _ _ _ _ _ _ _ _ _ _ _ _ _ _ _ _ _ _ _ _ _ _ _ _ _ _ _ _ _ _ _ _ _ _ _ _ _ _ _ _ _ _ _ _ _ _ _ _ _ _ _ _ _ _ _ _ _ _ _ _ _ _ _ _ _ _ _ _ _ _ _ _ _ _ _ _ _ _ _ _ _ _ _ _ _ _ _ _ _ _ _ _ _ _ _ _ _ _ _ _ _ _ _ _ _ _ _ _ _ _ _ _ _ _ _ _ _ _ _ _ _ _ _ _ _ _ _ _ _ _ _ _ _ _ _ _ _ _ _ _ _ _ _ _ x6 x7 x8 x9 x10 x11 qf12 _ _ _ _ _ _ _ _ _ _ _ _ _ _ _ _ _ _ _ _ _ _ _ _ _ _ _ _ _ _ _ _ _ _ _ _ _ _ _ _ _ _ _ _ _ _ _ _ _ _ _ _ _ _ _ _ _ _ _ _ _ _ _ _ _ _ _ _ _ _ _ _ _ _ _ _ _ _ _ _ _ _ _ _ _ _ _ _ _ _ _ _ _ _ _ _ _ _ _ _ _ _ _ _ _ _ _ _ _ _ _ _ _ _ _ _ _ _ _ _ _ _ _ _ _ _ _ _ _ _ _ _ _ _ _ _ _ _ _ _ _ _ _ _ _ _ _ _ _ _ _ _ _ _ _ _ _ _ _ _ _ _ _ _ _ _ _ _ _ _ _ _ _ _ _ _ _ _ _ _ _ _ _ _ _ _ _ _ _ _ _ _ _ _ _ _ _ _ _ _ _ _ _ _ _ _ _ _ _ _ _ _ _ _ _ _ _ _ _ _ _ _ _ _ _ _ _ _ _ _ _ _ _ _ _ _ _ _ _ _ qf13 qf14
     clear x0 x1 x2 x3 x4 x5 x6 x7 x8 x9 x10 x11
     revert k A0 c0 l0 A1 c1 l1 A2 c2 l2 r w hu30 hu32 HR0 HC0 HR1 HC1 HR2 HC2 t132 A4 y135 Ny135 LMc5 y138 Ny138 t141 A6 LMc7 y144 Ny144 t147 A8 qa0 w9 v136 w10 Ao13 co13 v139 w12 w14 Ao16 co16 w15 Ao17 co17 w18 v148 HO134 HO143 HO146 HO149 qa2 qa3 qa4 u6 qb0 qb1 u18 qc0 qc1 qc2 qc3 u23 u24 qb2 qb3 qb4 qb5 qb6 qb7 qb8 qb9 qb10 qb11 qb12 qb13 qb14 qb15 qb16 qb17 qb18 qb19 qb20 qb21 qb22 qb23 qb24 qb25 qb26 qb27 qb28 qb29 qb30 qb31 qb32 qb33 qb34 qb35 qb36 qb37 qb38 qb39 qb40 qb41 qb42 qb43 qb44 qb45 qb46 qb47 qb48 qb49 qb50 qb51 qb52 qb53 qb54 qb55 qb56 qb57 qb58 qb59 qb60 qb61 qb62 qb63 qb64 qb65 qb66 qb67 qb68 qb69 qb70 qb71 qb72 qb73 qb74 qb75 qb76 qb77 qb78 qb79 qb80 qb81 qb82 qb83 qb84 qb85 qb86 qb87 qb88 qb89 qb90 qb91 qb92 qb93 qb94 qb95 qb96 qb97 qb98 qb99 qb100 qb101 qb102 qb103 qb104 qb105 qb106 qb107 qb108 qb109 qb110 qb111 qb112 qb113 qb114 qb115 qb116 qb117 qb118 qb119 qb120 qb121 qb122 qb123 qb124 qb125 qb126 qb127 qb128 qb129 qb130 qb131 qb132 qb133 qb134 qb135 qb136 qb137 qb138 qb139 qb140 qb141 qb142 qb143 qb144 qb145 qb146 qb147 qb148 qb149 qb150 qb151 qb152 qb153 qb154 qb155 qb156 qb157 qb158 qb159 qb160 qb161 qb162 qb163 qb164 qb165 qb166 qb167 qb168 qb169 qb170 qb171 qb172 qb173 qb174 qb175 qb176 qb177 qb178 qb179 qb180 qb181 qb182 qb183 qb184 qb185 qb186 qb187 qb188 qb189 qb190 qb191 qb192 qb193 qb194 qb195 qb196 qb197 qb198 qb199 qb200 qb201 qb202 qb203 qb204 qb205 qb206 qa5 qa6 qa7 x8_1 x10_1 x11_1 x12_1 x13_1 hl8_1 k1 qa8 HK1 c19b0 qa9 qa11 qa12 qa13 x14_2 x15_2 x16_2 k2 qa14 HK2 c20b0 qb220 x80_23 kj23 HJ23 u10 u17 qe0 qe1 qe2 qe3 qe4 qe5 qe6 qe7 qe8 qe9 qe10 qe11 qe12 qe13 qe14 qe15 qe16 qe17 qe18 qe19 qe20 qe21 qe22 qe23 qe24 qe25 qe26 qe27 qe28 qe29 qe30 qe31 qe32 qe33 qe34 qe35 qe36 qe37 qe38 qe39 qe40 qe41 qe42 qe43 qe44 qe45 qe46 qe47 qe48 qe49 qe50 qe51 qe52 qe53 qe54 qe55 qe56 qe57 qe58 qe59 qe60 qe61 qe62 qe63 qe64 qe65 qe66 qe67 qe68 qe69 qe70 qe71 qe72 qe73 qe74 qe75 qe76 qe77 qe78 qe79 qe80 qe81 qe82 qe83 qe84 qe85 qe86 qe87 qe88 qe89 qe90 qe91 qe92 qe93 qe94 qe95 qe96 qe97 qe98 qe99 qe100 qe101 qe102 qe103 qe104 qe105 qe106 qe107 qe108 qe109 qe110 qe111 qe112 qe113 qe114 qe115 qe116 qe117 qe118 qe119 qe120 qe121 qe122 qe123 qe124 qe125 qe126 qe127 qe128 qe129 qe130 qe131 qe132 qe133 qe134 qe135 qe136 qe137 qe138 qe139 qe140 qe141 qe142 qe143 qe144 qe145 qe146 qe147 qe148 qe149 qe150 qe151 qe152 qe153 qe154 qe155 qe156 qe157 qe158 qe159 qe160 qe161 x10_25 x12_25 x13_25 kj25 HJ25 c31b0 gb156 w32 GW156 GE156 hcz33_0 hcz33_1 hcz33_2 hcz33_3 hcz33_4 hcz33_5 hcz33_6 hfz33_0 hfz33_1 hfz33_2 hfz33_3 hfz33_4 hfz33_5 hfz33_6 qc9 wr qc11 qc12 qc13 x19_5 x20_5 x21_5 x22_5 x157004_5 x157006_5 k5 qc14 HK5 c34b0 c54b0 c54b1 c55 c55b0 c55b1 c56 c56b0 c56b1 c57b0 c57b1 c58 c58b0 c58b1 c59 c59b0 c59b1 t167 A60 hcz62_0 hcz62_1 hcz62_2 hcz62_3 hcz62_4 hcz62_5 hcz62_6 hfz62_0 hfz62_1 hfz62_2 hfz62_3 hfz62_4 hfz62_5 hfz62_6 w63 i065 A65 hcut65 HR165 HC165 i066 A66 hcut66 HR166 HC166 HT_ HW_ w64 w67 hHeld hcz68_0 hcz68_1 hcz68_2 hcz68_3 hcz68_4 hcz68_5 hcz68_6 hfz68_0 hfz68_1 hfz68_2 hfz68_3 hfz68_4 hfz68_5 hfz68_6 x157000_60 kj60 HJ60 qf12 x157000_70 HO_7 HO_8 HO_9 HO_10 BK156 HB kj70 HJ70 HC74 qf13 qf14 wc u37 u38 u39 u40 u41 u42 u43 u44 u45 u46 u47 u48 u49 u50 u51 u52 u53 u54 u55 u56 u57 u58 u59 u60 u61 u62 u63 u64 u65 u66 u67 u68 u69 u70 u71 u72 u73 u74 u75 u76 u77 u78 u79 u80 u81 u82 u83 u84 u85 u86 u87 u88 u89 u90 u91 u92 u93 u94 u95 u96 u97 u98 u99 u100 u101 u102 u103 u104 u105 u106 u107 u108 u109 u110 u111 u112 u113 u114 u115 u116 u117 u118 u119 u120 u121 u122 u123 u124 u125 u126 u127 u128 u129 u130 u131 u132 u133 u134 u135 u136 u137 u138 u139 u140 u141 u142 u143 u144 u145 u146 u147 u148 u149 u150 u151 u152 u153 u154 u155 u156 u157 u158 u159 u160 u161 u162 u163 u164 u165 u166 u167 u168 u169 u170 u171 u172 u173 u174 u175 u176 u177 u178 u179 u180 u181 u182 u183 u184 u185 u186 u187 u188 u189 u190 u191 u192 u193 u194 u195 u196 u197 u198 u199 u200 u201 u202 u203 u204 u205 u206 u207 u208 u209 u210 u211 u212 u213 u214 u215 u216 u217 u218 u219 u220 u221 u222 u223 u224 u225 u226 u227 u228 u229 u230 u231 u232 u233 u234 u235 u236 u237 u238 u239 u240 u241 u242 u243 u244 u245 u246 u247 u248 u249 u250 u251 u252 u253 u254 u255 u256 u257 u258 u259 u260 u261 u262 u263 u264 u265 u266 u267 u268 u269 u270 u271 u272 u273 u274 u275 u276 hcut
     exact g2093.out
 ⟩
end Go.Proofs.Ytnmphfelebkaiaa.Pr
-- shrunk
