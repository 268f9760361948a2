import Derived.Test.YtnmphfelebkaiaaD6p395
set_option linter.unusedVariables false
set_option linter.unusedSimpArgs false
namespace Go.Proofs.Ytnmphfelebkaiaa.Pr
open Go.RowKit Go.Proofs.YtnmphfelebkaiaaW.PrintWords Go.Proofs.YtnmphfelebkaiaaW.PrintLast Go.Proofs.YtnmphfelebkaiaaW.PrintMore
attribute [local go_sem] max2_int min2_int max_two min_two max_three min_three max_four min_four

set_option maxHeartbeats 0 in
set_option maxRecDepth 100000 in
noncomputable def r08_Regions.calls.p421:PSigma fun G1652:Prop=>(Held G1652→(r08_Regions.calls.p395).1):=⟨_,by
 intro g1652
 intro k A0 c0 l0 A1 c1 l1 A2 c2 l2 r w hu30 hu32 HR0 HC0 HR1 HC1 HR2 HC2 t132 A4 y135 Ny135 LMc5 y138 Ny138 t141 A6 LMc7 y144 Ny144 t147 A8 qa0 w9 v136 w10 Ao13 co13 v139 w12 w14 Ao16 co16 w15 Ao17 co17 w18 v148 HO134 HO143 HO146 HO149 qa2 qa3 qa4 u6 qb0 qb1 u18 qc0 qc1 qc2 qc3 u23 u24 qb2 qb3 qb4 qb5 qb6 qb7 qb8 qb9 qb10 qb11 qb12 qb13 qb14 qb15 qb16 qb17 qb18 qb19 qb20 qb21 qb22 qb23 qb24 qb25 qb26 qb27 qb28 qb29 qb30 qb31 qb32 qb33 qb34 qb35 qb36 qb37 qb38 qb39 qb40 qb41 qb42 qb43 qb44 qb45 qb46 qb47 qb48 qb49 qb50 qb51 qb52 qb53 qb54 qb55 qb56 qb57 qb58 qb59 qb60 qb61 qb62 qb63 qb64 qb65 qb66 qb67 qb68 qb69 qb70 qb71 qb72 qb73 qb74 qb75 qb76 qb77 qb78 qb79 qb80 qb81 qb82 qb83 qb84 qb85 qb86 qb87 qb88 qb89 qb90 qb91 qb92 qb93 qb94 qb95 qb96 qb97 qb98 qb99 qb100 qb101 qb102 qb103 qb104 qb105 qb106 qb107 qb108 qb109 qb110 qb111 qb112 qb113 qb114 qb115 qb116 qb117 qb118 qb119 qb120 qb121 qb122 qb123 qb124 qb125 qb126 qb127 qb128 qb129 qb130 qb131 qb132 qb133 qb134 qb135 qb136 qb137 qb138 qb139 qb140 qb141 qb142 qb143 qb144 qb145 qb146 qb147 qb148 qb149 qb150 qb151 qb152 qb153 qb154 qb155 qb156 qb157 qb158 qb159 qb160 qb161 qb162 qb163 qb164 qb165 qb166 qb167 qb168 qb169 qb170 qb171 qb172 qb173 qb174 qb175 qb176 qb177 qb178 qb179 qb180 qb181 qb182 qb183 qb184 qb185 qb186 qb187 qb188 qb189 qb190 qb191 qb192 qb193 qb194 qb195 qb196 qb197 qb198 qb199 qb200 qb201 qb202 qb203 qb204 qb205 qb206 qa5 qa6 qa7 x8_1 x10_1 x11_1 x12_1 x13_1 hl8_1 k1 qa8 HK1 c19b0 qa9 qa11 qa12 qa13 x14_2 x15_2 x16_2 k2 qa14 HK2 c20b0 qb220 x80_23 kj23 HJ23 wc u10 u17 u37 u38 u39 u40 u41 u42 u43 u44 u45 u46 u47 u48 u49 u50 u51 u52 u53 u54 u55 u56 u57 u58 u59 u60 u61 u62 u63 u64 u65 u66 u67 u68 u69 u70 u71 u72 u73 u74 u75 u76 u77 u78 u79 u80 u81 u82 u83 u84 u85 u86 u87 u88 u89 u90 u91 u92 u93 u94 u95 u96 u97 u98 u99 u100 u101 u102 u103 u104 u105 u106 u107 u108 u109 u110 u111 u112 u113 u114 u115 u116 u185 u186 u187 u188 u189 u190 u191 u192 u193 u194 u195 u196 u197 u198 u199 u200 u201 u202 u203 u204 u205 u206 u207 u208 u209 u210 u211 u212 u213 u214 u215 u216 u217 u218 u219 u220 u221 u222 u223 u224 u225 u226 u227 u228 u229 u230 u231 u232 u233 u234 u235 u236 u237 u238 u239 u240 u241 u242 u243 u244 u245 u246 u247 u248 u249 u250 u251 u252 u253 u254 u255 u256 u257 u258 u259 u260 u261 u262 u263 u264 u265 u266 u267 u268 u269 u270 u271 u272 u273 u274 u275 u276 x10_25 x12_25 x13_25 kj25 HJ25 c31b0 H' gb156 w32 HO_7 HO_8 HO_9 HO_10 HB BK156 GW156 GE156 hcz33_0 hcz33_1 hcz33_2 hcz33_3 hcz33_4 hcz33_5 hcz33_6 hfz33_0 hfz33_1 hfz33_2 hfz33_3 hfz33_4 hfz33_5 hfz33_6 qc9 qc10 gk wr u19 u20 u21 u22 u117 u118 u119 u120 u121 u122 u123 u124 u125 u126 u127 u128 u129 u130 u131 u132 u133 u134 u135 u136 u137 u138 u139 u140 u141 u142 u143 u144 u145 u146 u147 u148 u149 u150 u151 u152 u153 u154 u155 u156 u157 u158 u159 u160 u161 u162 u163 u164 u165 u166 u167 u168 u169 u170 u171 u172 u173 u174 u175 u176 u177 u178 u179 u180 u181 u182 u183 u184 hrel qc11 qc12 qc13 qc14
 clear H'
 obtain ⟨x19_5,x20_5,x21_5,x22_5,x157004_5,x157006_5,rfl,rfl,rfl,rfl,HA,HK5,HO_7,HO_8,HO_9,HO_10,BK156,HB⟩:=hrel
 cases gk with
 | zero=>exact absurd HA.out (by simp [r08_Regions.l2])
 | succ k5 =>
  have H:=HA.out
  clear HA
  simp only [r08_Regions.l2] at H
  by_cases c34:x22_5<(x8_1.length:Int)
  rotate_left
  ·rw [if_neg c34] at H
   have c34b0:decide (x22_5<(x8_1.length:Int))=false:=decide_eq_false c34
   clear c34
   rename_i x0 x1 x2 x3 x4 x5
   clear x0 x1 x2 x3 x4 x5
   revert k A0 c0 l0 A1 c1 l1 A2 c2 l2 r w hu30 hu32 HR0 HC0 HR1 HC1 HR2 HC2 t132 A4 y135 Ny135 LMc5 y138 Ny138 t141 A6 LMc7 y144 Ny144 t147 A8 qa0 w9 v136 w10 Ao13 co13 v139 w12 w14 Ao16 co16 w15 Ao17 co17 w18 v148 HO134 HO143 HO146 HO149 qa2 qa3 qa4 u6 qb0 qb1 u18 qc0 qc1 qc2 qc3 u23 u24 qb2 qb3 qb4 qb5 qb6 qb7 qb8 qb9 qb10 qb11 qb12 qb13 qb14 qb15 qb16 qb17 qb18 qb19 qb20 qb21 qb22 qb23 qb24 qb25 qb26 qb27 qb28 qb29 qb30 qb31 qb32 qb33 qb34 qb35 qb36 qb37 qb38 qb39 qb40 qb41 qb42 qb43 qb44 qb45 qb46 qb47 qb48 qb49 qb50 qb51 qb52 qb53 qb54 qb55 qb56 qb57 qb58 qb59 qb60 qb61 qb62 qb63 qb64 qb65 qb66 qb67 qb68 qb69 qb70 qb71 qb72 qb73 qb74 qb75 qb76 qb77 qb78 qb79 qb80 qb81 qb82 qb83 qb84 qb85 qb86 qb87 qb88 qb89 qb90 qb91 qb92 qb93 qb94 qb95 qb96 qb97 qb98 qb99 qb100 qb101 qb102 qb103 qb104 qb105 qb106 qb107 qb108 qb109 qb110 qb111 qb112 qb113 qb114 qb115 qb116 qb117 qb118 qb119 qb120 qb121 qb122 qb123 qb124 qb125 qb126 qb127 qb128 qb129 qb130 qb131 qb132 qb133 qb134 qb135 qb136 qb137 qb138 qb139 qb140 qb141 qb142 qb143 qb144 qb145 qb146 qb147 qb148 qb149 qb150 qb151 qb152 qb153 qb154 qb155 qb156 qb157 qb158 qb159 qb160 qb161 qb162 qb163 qb164 qb165 qb166 qb167 qb168 qb169 qb170 qb171 qb172 qb173 qb174 qb175 qb176 qb177 qb178 qb179 qb180 qb181 qb182 qb183 qb184 qb185 qb186 qb187 qb188 qb189 qb190 qb191 qb192 qb193 qb194 qb195 qb196 qb197 qb198 qb199 qb200 qb201 qb202 qb203 qb204 qb205 qb206 qa5 qa6 qa7 x8_1 x10_1 x11_1 x12_1 x13_1 hl8_1 k1 qa8 HK1 c19b0 qa9 qa11 qa12 qa13 x14_2 x15_2 x16_2 k2 qa14 HK2 c20b0 qb220 x80_23 kj23 HJ23 wc u10 u17 u37 u38 u39 u40 u41 u42 u43 u44 u45 u46 u47 u48 u49 u50 u51 u52 u53 u54 u55 u56 u57 u58 u59 u60 u61 u62 u63 u64 u65 u66 u67 u68 u69 u70 u71 u72 u73 u74 u75 u76 u77 u78 u79 u80 u81 u82 u83 u84 u85 u86 u87 u88 u89 u90 u91 u92 u93 u94 u95 u96 u97 u98 u99 u100 u101 u102 u103 u104 u105 u106 u107 u108 u109 u110 u111 u112 u113 u114 u115 u116 u185 u186 u187 u188 u189 u190 u191 u192 u193 u194 u195 u196 u197 u198 u199 u200 u201 u202 u203 u204 u205 u206 u207 u208 u209 u210 u211 u212 u213 u214 u215 u216 u217 u218 u219 u220 u221 u222 u223 u224 u225 u226 u227 u228 u229 u230 u231 u232 u233 u234 u235 u236 u237 u238 u239 u240 u241 u242 u243 u244 u245 u246 u247 u248 u249 u250 u251 u252 u253 u254 u255 u256 u257 u258 u259 u260 u261 u262 u263 u264 u265 u266 u267 u268 u269 u270 u271 u272 u273 u274 u275 u276 x10_25 x12_25 x13_25 kj25 HJ25 c31b0 gb156 w32 GW156 GE156 hcz33_0 hcz33_1 hcz33_2 hcz33_3 hcz33_4 hcz33_5 hcz33_6 hfz33_0 hfz33_1 hfz33_2 hfz33_3 hfz33_4 hfz33_5 hfz33_6 qc9 qc10 wr u117 u118 u119 u120 u121 u122 u123 u124 u125 u126 u127 u128 u129 u130 u131 u132 u133 u134 u135 u136 u137 u138 u139 u140 u141 u142 u143 u144 u145 u146 u147 u148 u149 u150 u151 u152 u153 u154 u155 u156 u157 u158 u159 u160 u161 u162 u163 u164 u165 u166 u167 u168 u169 u170 u171 u172 u173 u174 u175 u176 u177 u178 u179 u180 u181 u182 u183 u184 qc11 qc12 qc13 x19_5 x20_5 x21_5 x22_5 x157004_5 x157006_5 HO_7 HO_8 HO_9 HO_10 BK156 HB k5 qc14 HK5 H c34b0
   exact g1652.out
  rw [if_pos c34] at H
  have c34b0:decide (x22_5<(x8_1.length:Int))=true:=decide_eq_true c34
  clear c34
  by_cases c35:0≤x22_5
  rotate_left
  ·rw [if_neg c35] at H
   exact absurd H (by simp)
  rw [if_pos c35] at H
  have c35b0:decide (0≤x22_5)=true:=decide_eq_true c35
  clear c35
  by_cases c36:x22_5<(t147.length:Int)
  rotate_left
  ·rw [if_neg c36] at H
   exact absurd H (by simp)
  rw [if_pos c36] at H
  have c36b0:decide (x22_5<(t147.length:Int))=true:=decide_eq_true c36
  clear c36
  by_cases c37:0≤x14_2
  rotate_left
  ·rw [if_neg c37] at H
   exact absurd H (by simp)
  rw [if_pos c37] at H
  have c37b0:decide (0≤x14_2)=true:=decide_eq_true c37
  clear c37
  by_cases c38:x14_2<(t147.length:Int)
  rotate_left
  ·rw [if_neg c38] at H
   exact absurd H (by simp)
  rw [if_pos c38] at H
  have c38b0:decide (x14_2<(t147.length:Int))=true:=decide_eq_true c38
  clear c38
  by_cases c39:(rd t147 x22_5)=(rd t147 x14_2)
  rotate_left
  ·skip
   rw [if_neg c39] at H
   have c39b0:((rd t147 x22_5) == (rd t147 x14_2))=false:=beq_eq_false_iff_ne.mpr c39
   have c39b1:((rd t147 x22_5) != (rd t147 x14_2))=true:=bne_iff_ne.mpr c39
   have H':=Aside0.mk H
   clear H
   try go_wp2
   have n0_:=Aside0.mk (Kd.N_drew HO_7.out)
   have n1_:=Aside0.mk (Kd.N_drew HO_8.out)
   have n2_:=Aside0.mk (Kd.R_drew HO_9.out)
   have n3_:=Aside0.mk (Kd.R_drew HO_10.out)
   have n4_:=Aside0.mk (blk_drew BK156.out)
   have n5_:=Aside0.mk (below_drew1 HB.out)
   clear HO_7
   clear HO_8
   clear HO_9
   clear HO_10
   clear BK156
   clear HB
   have HO_7:=n0_
   have HO_8:=n1_
   have HO_9:=n2_
   have HO_10:=n3_
   have BK156:=n4_
   have HB:=n5_
   clear n0_ n1_ n2_ n3_ n4_ n5_
   obtain ⟨Ao53,co53,eo53⟩:=Kd.R_slice HO_9.out
   (first|subst eo53|(injection eo53 with f1_ f2_ f3_;have f4_:=f1_.symm;have f5_:=f3_.symm;clear f1_ f2_ f3_;subst f4_;subst f5_))
   have p157:0≤(x22_5:Int):=of_decide_eq_true asm
   have q157:x22_5<(t147.length:Int):=of_decide_eq_true asm
   obtain ⟨ad157,e157,hx157_0⟩:=Kd.at_int (Kd.R_reads' HO_9.out).2.2 x22_5 p157 q157
   cases e157
   replace p157:=eq_true p157
   replace q157:=eq_true q157
   have p158:0≤(x14_2:Int):=of_decide_eq_true asm
   have q158:x14_2<(t147.length:Int):=of_decide_eq_true asm
   obtain ⟨ad158,e158,hx158_0⟩:=Kd.at_int (Kd.R_reads' HO_9.out).2.2 x14_2 p158 q158
   obtain rfl:ad157=ad158:=(by injection e158)
   replace p158:=eq_true p158
   replace q158:=eq_true q158
   refine start_ (n:=9) (S:=fun w'=>w'.cell? (ad157.add (x22_5).toNat)=some (.int .i64 (rd t147 x22_5))∧w'.cell? (ad157.add (x14_2).toNat)=some (.int .i64 (rd t147 x14_2))) (ds:=[]) #[false,false,false,false,false,false,false,false,false] (by kernel_rfl) rfl rfl ⟨hx157_0,hx158_0⟩ (fun hHeld=>?_);refine with_tabW r08_Regions.tab31 r08_Regions.bits31 (fun HT_ HW_=>?_)
   generalize wr.drew=w52 at HO_7 HO_8 HO_9 HO_10 BK156 HB hx157_0 hx158_0 hHeld ⊢
   refine pure_ (i:=0) (N:=some 123) (v:=?_) (a':=?_) #[true,false,false,false,false,false,false,false,false] rfl rfl (any_of HT_.out (by kernel_rfl)) (fun _ _ _ h=>h) (Or.inl ⟨by rfl,?_⟩) ?_ ?_
   rotate_left
   ·intro w'
    go_simp
    with_reducible rfl
   rotate_left
   ·simp only [Act.put,za,zb,zc,i64_w,i32_w]
    rfl
   refine pure_ (i:=1) (N:=some 124) (v:=?_) (a':=?_) #[true,true,false,false,false,false,false,false,false] rfl rfl (any_of HT_.out (by kernel_rfl)) (fun _ _ _ h=>h) (Or.inl ⟨by rfl,?_⟩) ?_ ?_
   rotate_left
   ·intro w'
    go_simp
    with_reducible rfl
   rotate_left
   ·simp only [Act.put,za,zb,zc,i64_w,i32_w]
    rfl
   refine pure_ (i:=2) (N:=some 125) (v:=?_) (a':=?_) #[true,true,true,false,false,false,false,false,false] rfl rfl (any_of HT_.out (by kernel_rfl)) (fun _ _ _ h=>h) (Or.inl ⟨by rfl,?_⟩) ?_ ?_
   rotate_left
   ·intro w'
    go_simp
    with_reducible rfl
   rotate_left
   ·simp only [Act.put,za,zb,zc,i64_w,i32_w]
    rfl
   refine pure_ (i:=4) (N:=some 127) (v:=?_) (a':=?_) #[true,true,true,false,true,false,false,false,false] rfl rfl (any_of HT_.out (by kernel_rfl)) (fun _ _ _ h=>h) (Or.inl ⟨by rfl,?_⟩) ?_ ?_
   rotate_left
   ·intro w'
    go_simp
    with_reducible rfl
   rotate_left
   ·simp only [Act.put,za,zb,zc,i64_w,i32_w]
    rfl
   refine pure_ (i:=5) (N:=some 128) (v:=?_) (a':=?_) #[true,true,true,false,true,true,false,false,false] rfl rfl (any_of HT_.out (by kernel_rfl)) (fun _ _ _ h=>h) (Or.inl ⟨by rfl,?_⟩) ?_ ?_
   rotate_left
   ·intro w'
    go_simp
    with_reducible rfl
   rotate_left
   ·simp only [Act.put,za,zb,zc,i64_w,i32_w]
    rfl
   refine pure_ (i:=6) (N:=some 129) (v:=?_) (a':=?_) #[true,true,true,false,true,true,true,false,false] rfl rfl (any_of HT_.out (by kernel_rfl)) (fun _ _ _ h=>h) (Or.inl ⟨by rfl,?_⟩) ?_ ?_
   rotate_left
   ·intro w'
    go_simp
    with_reducible rfl
   rotate_left
   ·simp only [Act.put,za,zb,zc,i64_w,i32_w]
    rfl
   refine take_ (i:=3) (N:=some 126) (v:=?_) (a':=?_) #[true,true,true,true,true,true,true,false,false] rfl rfl (take_ofW HT_.out HW_.out (by kernel_rfl)) (fun _ _ _ h=>h) (Or.inl ⟨by rfl,?_⟩) hHeld ?_ ?_
   rotate_left
   ·rintro w' ⟨s0,s1⟩
    go_simp
    with_reducible rfl
   rotate_left
   ·simp only [Act.put,za,zb,zc,i64_w,i32_w]
    rfl
   refine take_ (i:=7) (N:=some 130) (v:=?_) (a':=?_) #[true,true,true,true,true,true,true,true,false] rfl rfl (take_ofW HT_.out HW_.out (by kernel_rfl)) (fun _ _ _ h=>h) (Or.inl ⟨by rfl,?_⟩) hHeld ?_ ?_
   rotate_left
   ·rintro w' ⟨s0,s1⟩
    go_simp
    with_reducible rfl
   rotate_left
   ·simp only [Act.put,za,zb,zc,i64_w,i32_w]
    rfl
   refine pure_ (i:=8) (N:=some 131) (v:=?_) (a':=?_) #[true,true,true,true,true,true,true,true,true] rfl rfl (any_of HT_.out (by kernel_rfl)) (fun _ _ _ h=>h) (Or.inl ⟨by rfl,?_⟩) ?_ ?_
   rotate_left
   ·intro w'
    go_simp
    with_reducible rfl
   rotate_left
   ·simp only [Act.put,za,zb,zc,i64_w,i32_w]
    rfl
   refine done_ (done_of HT_.out (by kernel_rfl)) ?_
   try go_wp2
   go_roundg k5
   case measure=>have:=HK1.out;have:=HK2.out;have:=HJ23.out;have:=HJ25.out;have:=HK5.out;omega
   case rel=>exact ⟨(x19_5),(x20_5),(x21_5),(wrap64 (x22_5+1)),(x157004_5),(x157006_5),rx,rx,rx,rx,H',⟨by have:=HK1.out;have:=HK2.out;have:=HJ23.out;have:=HJ25.out;have:=HK5.out;omega⟩,⟨by (try simp only [hl8_1]);(with_reducible repeat (first|apply Kd.N_alloc|apply Kd.N_drewN|apply Kd.N_drew));exact HO_7.out⟩,⟨by (try simp only [hl8_1]);(with_reducible repeat (first|apply Kd.N_alloc|apply Kd.N_drewN|apply Kd.N_drew));exact HO_8.out⟩,⟨by (try simp only [hl8_1]);(with_reducible repeat (first|apply Kd.R_alloc|apply Kd.R_drewN|apply Kd.R_drew));exact HO_9.out⟩,⟨by (try simp only [hl8_1]);(with_reducible repeat (first|apply Kd.R_alloc|apply Kd.R_drewN|apply Kd.R_drew));exact HO_10.out⟩,⟨by (try simp only [hl8_1]);(with_reducible repeat (first|refine blk_drewN ?_ _|refine blk_drew ?_|refine blk_alloc ?_ _));exact BK156.out⟩,⟨by repeat (first|(with_reducible first|exact HB.out|apply below_alloc|apply pw_below_drewN|apply below_drew1|refine below_set ?_ GE156.out)|exact HB.out)⟩⟩
  rw [if_pos c39] at H
  have c39b0:((rd t147 x22_5) == (rd t147 x14_2))=true:=beq_iff_eq.mpr c39
  have c39b1:((rd t147 x22_5) != (rd t147 x14_2))=false:=bne_eq_false_iff_eq.mpr c39
  clear c39
  obtain ⟨ji40,hji40⟩:∃ j_:Int,(mx x19_5 (wrap64 (((rd_T52 x8_1 x22_5).f0)+((rd_T52 x8_1 x22_5).f1))))=j_:=⟨_,rfl⟩
  replace H:(if x22_5<(t132.length:Int) then (r08_Regions.l2 k5 l0 l1 l2 t132 x8_1 t147 x10_25 x12_25 x13_25 x14_2 x15_2 ji40 true x21_5 (wrap64 (x22_5+1)) 0 x15_2 0 x12_25 (wrap64 ((wrap64 (x157004_5+(((rd_T52 x8_1 x22_5).f2).length:Int))) - ((rd_T52 x8_1 x22_5).f1))) x13_25 x157006_5) else (r08_Regions.l2 k5 l0 l1 l2 t132 x8_1 t147 x10_25 x12_25 x13_25 x14_2 x15_2 ji40 x20_5 true (wrap64 (x22_5+1)) 0 x15_2 0 x12_25 x157004_5 x13_25 (wrap64 ((wrap64 (x157006_5+(((rd_T52 x8_1 x22_5).f2).length:Int))) - ((rd_T52 x8_1 x22_5).f1)))))=some r:=by first|(rw [hji40] at H;exact H)|(simp only [hji40] at H ⊢;exact H)
  have hji40_:(if x19_5<(wrap64 (((rd_T52 x8_1 x22_5).f0)+((rd_T52 x8_1 x22_5).f1))) then (wrap64 (((rd_T52 x8_1 x22_5).f0)+((rd_T52 x8_1 x22_5).f1))) else x19_5)=ji40:=hji40
  by_cases c41:x22_5<(t132.length:Int)
  ·skip
   rw [if_pos c41] at H
   have c41b0:decide (x22_5<(t132.length:Int))=true:=decide_eq_true c41
   clear c41
   have H':=Aside0.mk H
   clear H
   try go_wp2
   have n0_:=Aside0.mk (Kd.N_drew HO_7.out)
   have n1_:=Aside0.mk (Kd.N_drew HO_8.out)
   have n2_:=Aside0.mk (Kd.R_drew HO_9.out)
   have n3_:=Aside0.mk (Kd.R_drew HO_10.out)
   have n4_:=Aside0.mk (blk_drew BK156.out)
   have n5_:=Aside0.mk (below_drew1 HB.out)
   clear HO_7
   clear HO_8
   clear HO_9
   clear HO_10
   clear BK156
   clear HB
   have HO_7:=n0_
   have HO_8:=n1_
   have HO_9:=n2_
   have HO_10:=n3_
   have BK156:=n4_
   have HB:=n5_
   clear n0_ n1_ n2_ n3_ n4_ n5_
   obtain ⟨Ao43,co43,eo43⟩:=Kd.R_slice HO_9.out
   (first|subst eo43|(injection eo43 with f1_ f2_ f3_;have f4_:=f1_.symm;have f5_:=f3_.symm;clear f1_ f2_ f3_;subst f4_;subst f5_))
   have p157:0≤(x22_5:Int):=of_decide_eq_true asm
   have q157:x22_5<(t147.length:Int):=of_decide_eq_true asm
   obtain ⟨ad157,e157,hx157_0⟩:=Kd.at_int (Kd.R_reads' HO_9.out).2.2 x22_5 p157 q157
   cases e157
   replace p157:=eq_true p157
   replace q157:=eq_true q157
   have p158:0≤(x14_2:Int):=of_decide_eq_true asm
   have q158:x14_2<(t147.length:Int):=of_decide_eq_true asm
   obtain ⟨ad158,e158,hx158_0⟩:=Kd.at_int (Kd.R_reads' HO_9.out).2.2 x14_2 p158 q158
   obtain rfl:ad157=ad158:=(by injection e158)
   replace p158:=eq_true p158
   replace q158:=eq_true q158
   refine start_ (n:=9) (S:=fun w'=>w'.cell? (ad157.add (x22_5).toNat)=some (.int .i64 (rd t147 x22_5))∧w'.cell? (ad157.add (x14_2).toNat)=some (.int .i64 (rd t147 x14_2))) (ds:=[]) #[false,false,false,false,false,false,false,false,false] (by kernel_rfl) rfl rfl ⟨hx157_0,hx158_0⟩ (fun hHeld=>?_);refine with_tabW r08_Regions.tab31 r08_Regions.bits31 (fun HT_ HW_=>?_)
   generalize wr.drew=w42 at HO_7 HO_8 HO_9 HO_10 BK156 HB hx157_0 hx158_0 hHeld ⊢
   refine pure_ (i:=0) (N:=some 123) (v:=?_) (a':=?_) #[true,false,false,false,false,false,false,false,false] rfl rfl (any_of HT_.out (by kernel_rfl)) (fun _ _ _ h=>h) (Or.inl ⟨by rfl,?_⟩) ?_ ?_
   rotate_left
   ·intro w'
    go_simp
    with_reducible rfl
   rotate_left
   ·simp only [Act.put,za,zb,zc,i64_w,i32_w]
    rfl
   refine pure_ (i:=1) (N:=some 124) (v:=?_) (a':=?_) #[true,true,false,false,false,false,false,false,false] rfl rfl (any_of HT_.out (by kernel_rfl)) (fun _ _ _ h=>h) (Or.inl ⟨by rfl,?_⟩) ?_ ?_
   rotate_left
   ·intro w'
    go_simp
    with_reducible rfl
   rotate_left
   ·simp only [Act.put,za,zb,zc,i64_w,i32_w]
    rfl
   refine pure_ (i:=2) (N:=some 125) (v:=?_) (a':=?_) #[true,true,true,false,false,false,false,false,false] rfl rfl (any_of HT_.out (by kernel_rfl)) (fun _ _ _ h=>h) (Or.inl ⟨by rfl,?_⟩) ?_ ?_
   rotate_left
   ·intro w'
    go_simp
    with_reducible rfl
   rotate_left
   ·simp only [Act.put,za,zb,zc,i64_w,i32_w]
    rfl
   refine pure_ (i:=4) (N:=some 127) (v:=?_) (a':=?_) #[true,true,true,false,true,false,false,false,false] rfl rfl (any_of HT_.out (by kernel_rfl)) (fun _ _ _ h=>h) (Or.inl ⟨by rfl,?_⟩) ?_ ?_
   rotate_left
   ·intro w'
    go_simp
    with_reducible rfl
   rotate_left
   ·simp only [Act.put,za,zb,zc,i64_w,i32_w]
    rfl
   refine pure_ (i:=5) (N:=some 128) (v:=?_) (a':=?_) #[true,true,true,false,true,true,false,false,false] rfl rfl (any_of HT_.out (by kernel_rfl)) (fun _ _ _ h=>h) (Or.inl ⟨by rfl,?_⟩) ?_ ?_
   rotate_left
   ·intro w'
    go_simp
    with_reducible rfl
   rotate_left
   ·simp only [Act.put,za,zb,zc,i64_w,i32_w]
    rfl
   refine pure_ (i:=6) (N:=some 129) (v:=?_) (a':=?_) #[true,true,true,false,true,true,true,false,false] rfl rfl (any_of HT_.out (by kernel_rfl)) (fun _ _ _ h=>h) (Or.inl ⟨by rfl,?_⟩) ?_ ?_
   rotate_left
   ·intro w'
    go_simp
    with_reducible rfl
   rotate_left
   ·simp only [Act.put,za,zb,zc,i64_w,i32_w]
    rfl
   refine take_ (i:=3) (N:=some 126) (v:=?_) (a':=?_) #[true,true,true,true,true,true,true,false,false] rfl rfl (take_ofW HT_.out HW_.out (by kernel_rfl)) (fun _ _ _ h=>h) (Or.inl ⟨by rfl,?_⟩) hHeld ?_ ?_
   rotate_left
   ·rintro w' ⟨s0,s1⟩
    go_simp
    with_reducible rfl
   rotate_left
   ·simp only [Act.put,za,zb,zc,i64_w,i32_w]
    rfl
   refine take_ (i:=7) (N:=some 130) (v:=?_) (a':=?_) #[true,true,true,true,true,true,true,true,false] rfl rfl (take_ofW HT_.out HW_.out (by kernel_rfl)) (fun _ _ _ h=>h) (Or.inl ⟨by rfl,?_⟩) hHeld ?_ ?_
   rotate_left
   ·rintro w' ⟨s0,s1⟩
    go_simp
    with_reducible rfl
   rotate_left
   ·simp only [Act.put,za,zb,zc,i64_w,i32_w]
    rfl
   refine pure_ (i:=8) (N:=some 131) (v:=?_) (a':=?_) #[true,true,true,true,true,true,true,true,true] rfl rfl (any_of HT_.out (by kernel_rfl)) (fun _ _ _ h=>h) (Or.inl ⟨by rfl,?_⟩) ?_ ?_
   rotate_left
   ·intro w'
    go_simp
    with_reducible rfl
   rotate_left
   ·simp only [Act.put,za,zb,zc,i64_w,i32_w]
    rfl
   refine done_ (done_of HT_.out (by kernel_rfl)) ?_
   try go_wp2
   have n0_:=Aside0.mk (Kd.N_drew HO_7.out)
   have n1_:=Aside0.mk (Kd.N_drew HO_8.out)
   have n2_:=Aside0.mk (Kd.R_drew HO_9.out)
   have n3_:=Aside0.mk (Kd.R_drew HO_10.out)
   have n4_:=Aside0.mk (blk_drew BK156.out)
   have n5_:=Aside0.mk (below_drew1 HB.out)
   clear HO_7
   clear HO_8
   clear HO_9
   clear HO_10
   clear BK156
   clear HB
   have HO_7:=n0_
   have HO_8:=n1_
   have HO_9:=n2_
   have HO_10:=n3_
   have BK156:=n4_
   have HB:=n5_
   clear n0_ n1_ n2_ n3_ n4_ n5_
   have p159:0≤(x22_5:Int):=of_decide_eq_true asm
   have q159:x22_5<(x8_1.length:Int):=of_decide_eq_true asm
   obtain ⟨ad159,A159_2,c159_2,e159,hx159_0,hx159_1,hx159_2,hl159_2,hi159_2⟩:=at_T52 (Kd.N_reads' HO_8.out).2.2 x22_5 p159 q159
   cases e159
   obtain ⟨ce159,hce159,hMe159,hcc159⟩:=Kd.N_get HO_8.out z52 x22_5 p159 (by first|exact q159|exact of_decide_eq_true asm|(have e_:=(Kd.N_reads' HO_8.out).1;omega))
   obtain ⟨ua159_2,uc159_2,rfl,ul159_2,ge159_2⟩:=k52_openF hMe159
   have hv159_2:=hcc159 2 _ rfl
   rw [add_field _ _ 2 (by omega)] at hv159_2
   replace hv159_2:=Option.some.inj (hv159_2.symm.trans hx159_2)
   injection hv159_2 with hva_ hvn_ hvc_
   rw [hva_] at ge159_2
   rw [hvc_] at ul159_2
   have HL159_2:=Aside0.mk (show Kd.V Kd.string 9 _ w.heap.size _ _ ((rd_T52 x8_1 x22_5).f2) from Kd.V_mk ul159_2 ge159_2)
   clear hva_ hvn_ hvc_ ge159_2 ul159_2
   clear hcc159 hce159
   have HR159_2:=Aside0.mk hi159_2
   have HC159_2:=Aside0.mk hl159_2
   clear hi159_2 hl159_2
   replace p159:=eq_true p159
   replace q159:=eq_true q159
   have p160:0≤(x22_5:Int):=of_decide_eq_true asm
   have q160:x22_5<(x8_1.length:Int):=of_decide_eq_true asm
   obtain ⟨ad160,A160_2,c160_2,e160,hx160_0,hx160_1,hx160_2,hl160_2,hi160_2⟩:=at_T52 (Kd.N_reads' HO_8.out).2.2 x22_5 p160 q160
   obtain rfl:ad159=ad160:=(by injection e160)
   obtain ⟨ce160,hce160,hMe160,hcc160⟩:=Kd.N_get HO_8.out z52 x22_5 p160 (by first|exact q160|exact of_decide_eq_true asm|(have e_:=(Kd.N_reads' HO_8.out).1;omega))
   obtain ⟨ua160_2,uc160_2,rfl,ul160_2,ge160_2⟩:=k52_openF hMe160
   have hv160_2:=hcc160 2 _ rfl
   rw [add_field _ _ 2 (by omega)] at hv160_2
   replace hv160_2:=Option.some.inj (hv160_2.symm.trans hx160_2)
   injection hv160_2 with hva_ hvn_ hvc_
   rw [hva_] at ge160_2
   rw [hvc_] at ul160_2
   have HL160_2:=Aside0.mk (show Kd.V Kd.string 9 _ w.heap.size _ _ ((rd_T52 x8_1 x22_5).f2) from Kd.V_mk ul160_2 ge160_2)
   clear hva_ hvn_ hvc_ ge160_2 ul160_2
   clear hcc160 hce160
   have HR160_2:=Aside0.mk hi160_2
   have HC160_2:=Aside0.mk hl160_2
   clear hi160_2 hl160_2
   replace p160:=eq_true p160
   replace q160:=eq_true q160
   have ea_:=Option.some.inj (hx159_2.symm.trans hx160_2)
   injection ea_ with ea_ en_ ec_
   subst ea_
   subst ec_
   clear en_
   refine start_ (n:=14) (S:=fun w'=>w'.cell? (ad159.add ((x22_5).toNat * 3))=some (.int .i64 ((rd_T52 x8_1 x22_5).f0))∧w'.cell? ⟨(ad159.add ((x22_5).toNat * 3)).block,(ad159.add ((x22_5).toNat * 3)).off+1,none⟩=some (.int .i64 ((rd_T52 x8_1 x22_5).f1))∧w'.cell? ⟨(ad159.add ((x22_5).toNat * 3)).block,(ad159.add ((x22_5).toNat * 3)).off+2,none⟩=some (.slice A159_2 ((rd_T52 x8_1 x22_5).f2).length c159_2)∧w'.cell? (ad159.add ((x22_5).toNat * 3))=some (.int .i64 ((rd_T52 x8_1 x22_5).f0))∧w'.cell? ⟨(ad159.add ((x22_5).toNat * 3)).block,(ad159.add ((x22_5).toNat * 3)).off+1,none⟩=some (.int .i64 ((rd_T52 x8_1 x22_5).f1))∧w'.cell? ⟨(ad159.add ((x22_5).toNat * 3)).block,(ad159.add ((x22_5).toNat * 3)).off+2,none⟩=some (.slice A159_2 ((rd_T52 x8_1 x22_5).f2).length c159_2)) (ds:=[]) #[false,false,false,false,false,false,false,false,false,false,false,false,false,false] (by kernel_rfl) rfl rfl ⟨hx159_0,hx159_1,hx159_2,hx160_0,hx160_1,hx160_2⟩ (fun hHeld=>?_);refine with_tabW r08_Regions.tab32 r08_Regions.bits32 (fun HT_ HW_=>?_)
   generalize w42.drew=w44 at HO_7 HO_8 HO_9 HO_10 BK156 HB HL159_2 HL160_2 HR159_2 HR160_2 hx159_0 hx159_1 hx159_2 hx160_0 hx160_1 hx160_2 hHeld ⊢
   refine pure_ (i:=0) (N:=some 132) (v:=?_) (a':=?_) #[true,false,false,false,false,false,false,false,false,false,false,false,false,false] rfl rfl (any_of HT_.out (by kernel_rfl)) (fun _ _ _ h=>h) (Or.inl ⟨by rfl,?_⟩) ?_ ?_
   rotate_left
   ·intro w'
    go_simp
    with_reducible rfl
   rotate_left
   ·simp only [Act.put,za,zb,zc,i64_w,i32_w]
    rfl
   refine pure_ (i:=1) (N:=some 133) (v:=?_) (a':=?_) #[true,true,false,false,false,false,false,false,false,false,false,false,false,false] rfl rfl (any_of HT_.out (by kernel_rfl)) (fun _ _ _ h=>h) (Or.inl ⟨by rfl,?_⟩) ?_ ?_
   rotate_left
   ·intro w'
    go_simp
    with_reducible rfl
   rotate_left
   ·simp only [Act.put,za,zb,zc,i64_w,i32_w]
    rfl
   refine pure_ (i:=2) (N:=some 134) (v:=?_) (a':=?_) #[true,true,true,false,false,false,false,false,false,false,false,false,false,false] rfl rfl (any_of HT_.out (by kernel_rfl)) (fun _ _ _ h=>h) (Or.inl ⟨by rfl,?_⟩) ?_ ?_
   rotate_left
   ·intro w'
    go_simp
    with_reducible rfl
   rotate_left
   ·simp only [Act.put,za,zb,zc,i64_w,i32_w]
    rfl
   refine pure_ (i:=3) (N:=some 135) (v:=?_) (a':=?_) #[true,true,true,true,false,false,false,false,false,false,false,false,false,false] rfl rfl (any_of HT_.out (by kernel_rfl)) (fun _ _ _ h=>h) (Or.inl ⟨by rfl,?_⟩) ?_ ?_
   rotate_left
   ·intro w'
    go_simp
    with_reducible rfl
   rotate_left
   ·simp only [Act.put,za,zb,zc,i64_w,i32_w]
    rfl
   refine pure_ (i:=4) (N:=some 136) (v:=?_) (a':=?_) #[true,true,true,true,true,false,false,false,false,false,false,false,false,false] rfl rfl (any_of HT_.out (by kernel_rfl)) (fun _ _ _ h=>h) (Or.inl ⟨by rfl,?_⟩) ?_ ?_
   rotate_left
   ·intro w'
    go_simp
    with_reducible rfl
   rotate_left
   ·simp only [Act.put,za,zb,zc,i64_w,i32_w]
    rfl
   refine pure_ (i:=6) (N:=some 138) (v:=?_) (a':=?_) #[true,true,true,true,true,false,true,false,false,false,false,false,false,false] rfl rfl (any_of HT_.out (by kernel_rfl)) (fun _ _ _ h=>h) (Or.inl ⟨by rfl,?_⟩) ?_ ?_
   rotate_left
   ·intro w'
    go_simp
    with_reducible rfl
   rotate_left
   ·simp only [Act.put,za,zb,zc,i64_w,i32_w]
    rfl
   refine pure_ (i:=7) (N:=some 139) (v:=?_) (a':=?_) #[true,true,true,true,true,false,true,true,false,false,false,false,false,false] rfl rfl (any_of HT_.out (by kernel_rfl)) (fun _ _ _ h=>h) (Or.inl ⟨by rfl,?_⟩) ?_ ?_
   rotate_left
   ·intro w'
    go_simp
    with_reducible rfl
   rotate_left
   ·simp only [Act.put,za,zb,zc,i64_w,i32_w]
    rfl
   refine pure_ (i:=8) (N:=some 140) (v:=?_) (a':=?_) #[true,true,true,true,true,false,true,true,true,false,false,false,false,false] rfl rfl (any_of HT_.out (by kernel_rfl)) (fun _ _ _ h=>h) (Or.inl ⟨by rfl,?_⟩) ?_ ?_
   rotate_left
   ·intro w'
    go_simp
    with_reducible rfl
   rotate_left
   ·simp only [Act.put,za,zb,zc,i64_w,i32_w]
    rfl
   refine pure_ (i:=9) (N:=some 141) (v:=?_) (a':=?_) #[true,true,true,true,true,false,true,true,true,true,false,false,false,false] rfl rfl (any_of HT_.out (by kernel_rfl)) (fun _ _ _ h=>h) (Or.inl ⟨by rfl,?_⟩) ?_ ?_
   rotate_left
   ·intro w'
    go_simp
    with_reducible rfl
   rotate_left
   ·simp only [Act.put,za,zb,zc,i64_w,i32_w]
    rfl
   refine take_ (i:=5) (N:=some 137) (v:=?_) (a':=?_) #[true,true,true,true,true,true,true,true,true,true,false,false,false,false] rfl rfl (take_ofW HT_.out HW_.out (by kernel_rfl)) (fun _ _ _ h=>h) (Or.inl ⟨by rfl,?_⟩) hHeld ?_ ?_
   rotate_left
   ·rintro w' ⟨s0,s1,s2,s3,s4,s5⟩
    go_simp
    with_reducible rfl
   rotate_left
   ·simp only [Act.put,za,zb,zc,i64_w,i32_w]
    rfl
   refine take_ (i:=10) (N:=some 142) (v:=?_) (a':=?_) #[true,true,true,true,true,true,true,true,true,true,true,false,false,false] rfl rfl (take_ofW HT_.out HW_.out (by kernel_rfl)) (fun _ _ _ h=>h) (Or.inl ⟨by rfl,?_⟩) hHeld ?_ ?_
   rotate_left
   ·rintro w' ⟨s0,s1,s2,s3,s4,s5⟩
    go_simp
    with_reducible rfl
   rotate_left
   ·simp only [Act.put,za,zb,zc,i64_w,i32_w]
    rfl
   refine pure_ (i:=11) (N:=some 143) (v:=?_) (a':=?_) #[true,true,true,true,true,true,true,true,true,true,true,true,false,false] rfl rfl (any_of HT_.out (by kernel_rfl)) (fun _ _ _ h=>h) (Or.inl ⟨by rfl,?_⟩) ?_ ?_
   rotate_left
   ·intro w'
    go_simp
    with_reducible rfl
   rotate_left
   ·simp only [Act.put,za,zb,zc,i64_w,i32_w]
    rfl
   refine pure_ (i:=12) (N:=some 144) (v:=?_) (a':=?_) #[true,true,true,true,true,true,true,true,true,true,true,true,true,false] rfl rfl (any_of HT_.out (by kernel_rfl)) (fun _ _ _ h=>h) (Or.inl ⟨by rfl,?_⟩) ?_ ?_
   rotate_left
   ·intro w'
    go_simp
    with_reducible rfl
   rotate_left
   ·simp only [Act.put,za,zb,zc,i64_w,i32_w]
    rfl
   refine pure_ (i:=13) (N:=some 19) (v:=?_) (a':=?_) #[true,true,true,true,true,true,true,true,true,true,true,true,true,true] rfl rfl (any_of HT_.out (by kernel_rfl)) (fun _ _ _ h=>h) (Or.inl ⟨by rfl,?_⟩) ?_ ?_
   rotate_left
   ·intro w'
    go_simp
    with_reducible rfl
   rotate_left
   ·simp only [Act.put,za,zb,zc,i64_w,i32_w]
    rfl
   refine done_ (done_of HT_.out (by kernel_rfl)) ?_
   try go_wp2
   have n0_:=Aside0.mk (Kd.N_drew HO_7.out)
   have n1_:=Aside0.mk (Kd.N_drew HO_8.out)
   have n2_:=Aside0.mk (Kd.R_drew HO_9.out)
   have n3_:=Aside0.mk (Kd.R_drew HO_10.out)
   have n4_:=Aside0.mk (Kd.V_drew HL159_2.out)
   have n5_:=Aside0.mk (Kd.V_drew HL160_2.out)
   have n6_:=Aside0.mk (blk_drew BK156.out)
   have n7_:=Aside0.mk (Kd.C_drew HR159_2.out)
   have n8_:=Aside0.mk (Kd.C_drew HR160_2.out)
   have n9_:=Aside0.mk (below_drew1 HB.out)
   clear HO_7
   clear HO_8
   clear HO_9
   clear HO_10
   clear HL159_2
   clear HL160_2
   clear BK156
   clear HR159_2
   clear HR160_2
   clear HB
   have HO_7:=n0_
   have HO_8:=n1_
   have HO_9:=n2_
   have HO_10:=n3_
   have HL159_2:=n4_
   have HL160_2:=n5_
   have BK156:=n6_
   have HR159_2:=n7_
   have HR160_2:=n8_
   have HB:=n9_
   clear n0_ n1_ n2_ n3_ n4_ n5_ n6_ n7_ n8_ n9_
   have p161:0≤(x22_5:Int):=of_decide_eq_true asm
   have q161:x22_5<(x8_1.length:Int):=of_decide_eq_true asm
   obtain ⟨ad161,A161_2,c161_2,e161,hx161_0,hx161_1,hx161_2,hl161_2,hi161_2⟩:=at_T52 (Kd.N_reads' HO_8.out).2.2 x22_5 p161 q161
   obtain rfl:ad159=ad161:=(by injection e161)
   obtain ⟨ce161,hce161,hMe161,hcc161⟩:=Kd.N_get HO_8.out z52 x22_5 p161 (by first|exact q161|exact of_decide_eq_true asm|(have e_:=(Kd.N_reads' HO_8.out).1;omega))
   obtain ⟨ua161_2,uc161_2,rfl,ul161_2,ge161_2⟩:=k52_openF hMe161
   have hv161_2:=hcc161 2 _ rfl
   rw [add_field _ _ 2 (by omega)] at hv161_2
   replace hv161_2:=Option.some.inj (hv161_2.symm.trans hx161_2)
   injection hv161_2 with hva_ hvn_ hvc_
   rw [hva_] at ge161_2
   rw [hvc_] at ul161_2
   have HL161_2:=Aside0.mk (show Kd.V Kd.string 9 _ w.heap.size _ _ ((rd_T52 x8_1 x22_5).f2) from Kd.V_mk ul161_2 ge161_2)
   clear hva_ hvn_ hvc_ ge161_2 ul161_2
   clear hcc161 hce161
   have HR161_2:=Aside0.mk hi161_2
   have HC161_2:=Aside0.mk hl161_2
   clear hi161_2 hl161_2
   replace p161:=eq_true p161
   replace q161:=eq_true q161
   have p162:0≤(x22_5:Int):=of_decide_eq_true asm
   have q162:x22_5<(x8_1.length:Int):=of_decide_eq_true asm
   obtain ⟨ad162,A162_2,c162_2,e162,hx162_0,hx162_1,hx162_2,hl162_2,hi162_2⟩:=at_T52 (Kd.N_reads' HO_8.out).2.2 x22_5 p162 q162
   obtain rfl:ad159=ad162:=(by injection e162)
   obtain ⟨ce162,hce162,hMe162,hcc162⟩:=Kd.N_get HO_8.out z52 x22_5 p162 (by first|exact q162|exact of_decide_eq_true asm|(have e_:=(Kd.N_reads' HO_8.out).1;omega))
   obtain ⟨ua162_2,uc162_2,rfl,ul162_2,ge162_2⟩:=k52_openF hMe162
   have hv162_2:=hcc162 2 _ rfl
   rw [add_field _ _ 2 (by omega)] at hv162_2
   replace hv162_2:=Option.some.inj (hv162_2.symm.trans hx162_2)
   injection hv162_2 with hva_ hvn_ hvc_
   rw [hva_] at ge162_2
   rw [hvc_] at ul162_2
   have HL162_2:=Aside0.mk (show Kd.V Kd.string 9 _ w.heap.size _ _ ((rd_T52 x8_1 x22_5).f2) from Kd.V_mk ul162_2 ge162_2)
   clear hva_ hvn_ hvc_ ge162_2 ul162_2
   clear hcc162 hce162
   have HR162_2:=Aside0.mk hi162_2
   have HC162_2:=Aside0.mk hl162_2
   clear hi162_2 hl162_2
   replace p162:=eq_true p162
   replace q162:=eq_true q162
   have ea_:=Option.some.inj (hx161_2.symm.trans hx162_2)
   injection ea_ with ea_ en_ ec_
   subst ea_
   subst ec_
   clear en_
   refine start_ (n:=19) (S:=fun w'=>w'.cell? ⟨gb156,0,none⟩=some (.int .i64 0)∧w'.cell? ⟨gb156,1,none⟩=some (.int .i64 x15_2)∧w'.cell? ⟨gb156,2,none⟩=some (.int .i64 0)∧w'.cell? ⟨gb156,3,none⟩=some (.int .i64 x12_25)∧w'.cell? ⟨gb156,4,none⟩=some (.int .i64 x157004_5)∧w'.cell? ⟨gb156,5,none⟩=some (.int .i64 x13_25)∧w'.cell? ⟨gb156,6,none⟩=some (.int .i64 x157006_5)∧w'.cell? (ad159.add ((x22_5).toNat * 3))=some (.int .i64 ((rd_T52 x8_1 x22_5).f0))∧w'.cell? ⟨(ad159.add ((x22_5).toNat * 3)).block,(ad159.add ((x22_5).toNat * 3)).off+1,none⟩=some (.int .i64 ((rd_T52 x8_1 x22_5).f1))∧w'.cell? ⟨(ad159.add ((x22_5).toNat * 3)).block,(ad159.add ((x22_5).toNat * 3)).off+2,none⟩=some (.slice A161_2 ((rd_T52 x8_1 x22_5).f2).length c161_2)∧w'.cell? (ad159.add ((x22_5).toNat * 3))=some (.int .i64 ((rd_T52 x8_1 x22_5).f0))∧w'.cell? ⟨(ad159.add ((x22_5).toNat * 3)).block,(ad159.add ((x22_5).toNat * 3)).off+1,none⟩=some (.int .i64 ((rd_T52 x8_1 x22_5).f1))∧w'.cell? ⟨(ad159.add ((x22_5).toNat * 3)).block,(ad159.add ((x22_5).toNat * 3)).off+2,none⟩=some (.slice A161_2 ((rd_T52 x8_1 x22_5).f2).length c161_2)) (ds:=[18]) #[false,false,false,false,false,false,false,false,false,false,false,false,false,false,false,false,false,false,false] (by kernel_rfl) rfl rfl ⟨(blk_cell BK156.out 0).trans rfl,(blk_cell BK156.out 1).trans rfl,(blk_cell BK156.out 2).trans rfl,(blk_cell BK156.out 3).trans rfl,(blk_cell BK156.out 4).trans rfl,(blk_cell BK156.out 5).trans rfl,(blk_cell BK156.out 6).trans rfl,hx161_0,hx161_1,hx161_2,hx162_0,hx162_1,hx162_2⟩ (fun hHeld=>?_);refine with_tabW r08_Regions.tab34 r08_Regions.bits34 (fun HT_ HW_=>?_)
   generalize w44.drew=w45 at HO_7 HO_8 HO_9 HO_10 HL159_2 HL160_2 BK156 HR159_2 HR160_2 HB HL161_2 HL162_2 HR161_2 HR162_2 hx161_0 hx161_1 hx161_2 hx162_0 hx162_1 hx162_2 hHeld ⊢
   refine pure_ (i:=0) (N:=some 149) (v:=?_) (a':=?_) #[true,false,false,false,false,false,false,false,false,false,false,false,false,false,false,false,false,false,false] rfl rfl (any_of HT_.out (by kernel_rfl)) (fun _ _ _ h=>h) (Or.inl ⟨by rfl,?_⟩) ?_ ?_
   rotate_left
   ·intro w'
    go_simp
    with_reducible rfl
   rotate_left
   ·simp only [Act.put,za,zb,zc,i64_w,i32_w]
    rfl
   refine pure_ (i:=1) (N:=some 150) (v:=?_) (a':=?_) #[true,true,false,false,false,false,false,false,false,false,false,false,false,false,false,false,false,false,false] rfl rfl (any_of HT_.out (by kernel_rfl)) (fun _ _ _ h=>h) (Or.inl ⟨by rfl,?_⟩) ?_ ?_
   rotate_left
   ·intro w'
    go_simp
    with_reducible rfl
   rotate_left
   ·simp only [Act.put,za,zb,zc,i64_w,i32_w]
    rfl
   refine pure_ (i:=3) (N:=some 152) (v:=?_) (a':=?_) #[true,true,false,true,false,false,false,false,false,false,false,false,false,false,false,false,false,false,false] rfl rfl (any_of HT_.out (by kernel_rfl)) (fun _ _ _ h=>h) (Or.inl ⟨by rfl,?_⟩) ?_ ?_
   rotate_left
   ·intro w'
    go_simp
    with_reducible rfl
   rotate_left
   ·simp only [Act.put,za,zb,zc,i64_w,i32_w]
    rfl
   refine pure_ (i:=4) (N:=some 153) (v:=?_) (a':=?_) #[true,true,false,true,true,false,false,false,false,false,false,false,false,false,false,false,false,false,false] rfl rfl (any_of HT_.out (by kernel_rfl)) (fun _ _ _ h=>h) (Or.inl ⟨by rfl,?_⟩) ?_ ?_
   rotate_left
   ·intro w'
    go_simp
    with_reducible rfl
   rotate_left
   ·simp only [Act.put,za,zb,zc,i64_w,i32_w]
    rfl
   refine pure_ (i:=5) (N:=some 154) (v:=?_) (a':=?_) #[true,true,false,true,true,true,false,false,false,false,false,false,false,false,false,false,false,false,false] rfl rfl (any_of HT_.out (by kernel_rfl)) (fun _ _ _ h=>h) (Or.inl ⟨by rfl,?_⟩) ?_ ?_
   rotate_left
   ·intro w'
    go_simp
    with_reducible rfl
   rotate_left
   ·simp only [Act.put,za,zb,zc,i64_w,i32_w]
    rfl
   refine pure_ (i:=6) (N:=some 155) (v:=?_) (a':=?_) #[true,true,false,true,true,true,true,false,false,false,false,false,false,false,false,false,false,false,false] rfl rfl (any_of HT_.out (by kernel_rfl)) (fun _ _ _ h=>h) (Or.inl ⟨by rfl,?_⟩) ?_ ?_
   rotate_left
   ·intro w'
    go_simp
    with_reducible rfl
   rotate_left
   ·simp only [Act.put,za,zb,zc,i64_w,i32_w]
    rfl
   refine pure_ (i:=10) (N:=some 159) (v:=?_) (a':=?_) #[true,true,false,true,true,true,true,false,false,false,true,false,false,false,false,false,false,false,false] rfl rfl (any_of HT_.out (by kernel_rfl)) (fun _ _ _ h=>h) (Or.inl ⟨by rfl,?_⟩) ?_ ?_
   rotate_left
   ·intro w'
    go_simp
    with_reducible rfl
   rotate_left
   ·simp only [Act.put,za,zb,zc,i64_w,i32_w]
    rfl
   refine pure_ (i:=11) (N:=some 160) (v:=?_) (a':=?_) #[true,true,false,true,true,true,true,false,false,false,true,true,false,false,false,false,false,false,false] rfl rfl (any_of HT_.out (by kernel_rfl)) (fun _ _ _ h=>h) (Or.inl ⟨by rfl,?_⟩) ?_ ?_
   rotate_left
   ·intro w'
    go_simp
    with_reducible rfl
   rotate_left
   ·simp only [Act.put,za,zb,zc,i64_w,i32_w]
    rfl
   refine pure_ (i:=12) (N:=some 161) (v:=?_) (a':=?_) #[true,true,false,true,true,true,true,false,false,false,true,true,true,false,false,false,false,false,false] rfl rfl (any_of HT_.out (by kernel_rfl)) (fun _ _ _ h=>h) (Or.inl ⟨by rfl,?_⟩) ?_ ?_
   rotate_left
   ·intro w'
    go_simp
    with_reducible rfl
   rotate_left
   ·simp only [Act.put,za,zb,zc,i64_w,i32_w]
    rfl
   refine pure_ (i:=13) (N:=some 162) (v:=?_) (a':=?_) #[true,true,false,true,true,true,true,false,false,false,true,true,true,true,false,false,false,false,false] rfl rfl (any_of HT_.out (by kernel_rfl)) (fun _ _ _ h=>h) (Or.inl ⟨by rfl,?_⟩) ?_ ?_
   rotate_left
   ·intro w'
    go_simp
    with_reducible rfl
   rotate_left
   ·simp only [Act.put,za,zb,zc,i64_w,i32_w]
    rfl
   refine take_ (i:=2) (N:=some 151) (v:=?_) (a':=?_) #[true,true,true,true,true,true,true,false,false,false,true,true,true,true,false,false,false,false,false] rfl rfl (take_ofW HT_.out HW_.out (by kernel_rfl)) (fun _ _ _ h=>h) (Or.inl ⟨by rfl,?_⟩) hHeld ?_ ?_
   rotate_left
   ·rintro w' ⟨s0,s1,s2,s3,s4,s5,s6,s7,s8,s9,s10,s11,s12⟩
    go_simp
    with_reducible rfl
   rotate_left
   ·simp only [Act.put,za,zb,zc,i64_w,i32_w]
    rfl
   refine take_ (i:=7) (N:=some 156) (v:=?_) (a':=?_) #[true,true,true,true,true,true,true,true,false,false,true,true,true,true,false,false,false,false,false] rfl rfl (take_ofW HT_.out HW_.out (by kernel_rfl)) (fun _ _ _ h=>h) (Or.inl ⟨by rfl,?_⟩) hHeld ?_ ?_
   rotate_left
   ·rintro w' ⟨s0,s1,s2,s3,s4,s5,s6,s7,s8,s9,s10,s11,s12⟩
    go_simp
    with_reducible rfl
   rotate_left
   ·simp only [Act.put,za,zb,zc,i64_w,i32_w]
    rfl
   refine pure_ (i:=8) (N:=some 157) (v:=?_) (a':=?_) #[true,true,true,true,true,true,true,true,true,false,true,true,true,true,false,false,false,false,false] rfl rfl (any_of HT_.out (by kernel_rfl)) (fun _ _ _ h=>h) (Or.inl ⟨by rfl,?_⟩) ?_ ?_
   rotate_left
   ·intro w'
    go_simp
    with_reducible rfl
   rotate_left
   ·simp only [Act.put,za,zb,zc,i64_w,i32_w]
    rfl
   refine pure_ (i:=9) (N:=some 158) (v:=?_) (a':=?_) #[true,true,true,true,true,true,true,true,true,true,true,true,true,true,false,false,false,false,false] rfl rfl (any_of HT_.out (by kernel_rfl)) (fun _ _ _ h=>h) (Or.inl ⟨by rfl,?_⟩) ?_ ?_
   rotate_left
   ·intro w'
    go_simp
    with_reducible rfl
   rotate_left
   ·simp only [Act.put,za,zb,zc,i64_w,i32_w]
    rfl
   refine take_ (i:=14) (N:=some 163) (v:=?_) (a':=?_) #[true,true,true,true,true,true,true,true,true,true,true,true,true,true,true,false,false,false,false] rfl rfl (take_ofW HT_.out HW_.out (by kernel_rfl)) (fun _ _ _ h=>h) (Or.inl ⟨by rfl,?_⟩) hHeld ?_ ?_
   rotate_left
   ·rintro w' ⟨s0,s1,s2,s3,s4,s5,s6,s7,s8,s9,s10,s11,s12⟩
    go_simp
    with_reducible rfl
   rotate_left
   ·simp only [Act.put,za,zb,zc,i64_w,i32_w]
    rfl
   refine pure_ (i:=15) (N:=some 164) (v:=?_) (a':=?_) #[true,true,true,true,true,true,true,true,true,true,true,true,true,true,true,true,false,false,false] rfl rfl (any_of HT_.out (by kernel_rfl)) (fun _ _ _ h=>h) (Or.inl ⟨by rfl,?_⟩) ?_ ?_
   rotate_left
   ·intro w'
    go_simp
    with_reducible rfl
   rotate_left
   ·simp only [Act.put,za,zb,zc,i64_w,i32_w]
    rfl
   refine pure_ (i:=16) (N:=some 165) (v:=?_) (a':=?_) #[true,true,true,true,true,true,true,true,true,true,true,true,true,true,true,true,true,false,false] rfl rfl (any_of HT_.out (by kernel_rfl)) (fun _ _ _ h=>h) (Or.inl ⟨by rfl,?_⟩) ?_ ?_
   rotate_left
   ·intro w'
    go_simp
    with_reducible rfl
   rotate_left
   ·simp only [Act.put,za,zb,zc,i64_w,i32_w]
    rfl
   refine pure_ (i:=17) (N:=some 166) (v:=?_) (a':=?_) #[true,true,true,true,true,true,true,true,true,true,true,true,true,true,true,true,true,true,false] rfl rfl (any_of HT_.out (by kernel_rfl)) (fun _ _ _ h=>h) (Or.inl ⟨by rfl,?_⟩) ?_ ?_
   rotate_left
   ·intro w'
    go_simp
    with_reducible rfl
   rotate_left
   ·simp only [Act.put,za,zb,zc,i64_w,i32_w]
    rfl
   refine last_ (i:=18) (N:=none) #[true,true,true,true,true,true,true,true,true,true,true,true,true,true,true,true,true,true,true] rfl rfl (one_of HT_.out (by kernel_rfl)) (by decide) (fun K hK=>?_)
   have hs46:w45.cell? ⟨gb156,4,none⟩=some (.int .i64 x157004_5):=(blk_cell BK156.out 4).trans rfl
   have hfs46:=blk_frozen BK156.out 4
   refine skip_ (w1:=?_) (by rfl) rfl ?_ ?_
   rotate_left
   ·go_simp
    rfl
   refine hK.out _ _ ?_
   clear hK K
   refine done_ (done_of HT_.out (by kernel_rfl)) ?_
   try go_wp2
   go_roundg k5
   case measure=>have:=HK1.out;have:=HK2.out;have:=HJ23.out;have:=HJ25.out;have:=HK5.out;omega
   case rel=>exact ⟨(ji40),(true),(x21_5),(wrap64 (x22_5+1)),(wrap64 ((wrap64 (x157004_5+(((rd_T52 x8_1 x22_5).f2).length:Int))) - ((rd_T52 x8_1 x22_5).f1))),(x157006_5),(by first|rfl|(simp;done)|(simp only [← hji40]<;>(first|rfl|simp))|(simp [*];done)),rx,rx,rx,H',⟨by have:=HK1.out;have:=HK2.out;have:=HJ23.out;have:=HJ25.out;have:=HK5.out;omega⟩,⟨by (try simp only [hl8_1]);(with_reducible repeat (first|apply Kd.N_alloc|apply Kd.N_drewN|apply Kd.N_drew));exact Kd.N_mono (Kd.N_far (p:=⟨gb156,4,none⟩) (Kd.N_mono HO_7.out (fun k_ hk=>(⟨hk,hk.2.2.2⟩:_∧k_≠gb156))) (fun _ hk=>hk.2) (.int .i64 (wrap64 ((wrap64 (x157004_5+(((rd_T52 x8_1 x22_5).f2).length:Int))) - ((rd_T52 x8_1 x22_5).f1))))) (fun _ hk=>⟨hk.1.1,⟨hk.1.2.1,⟨hk.1.2.2.1,hk.1.2.2.2⟩⟩⟩)⟩,⟨by (try simp only [hl8_1]);(with_reducible repeat (first|apply Kd.N_alloc|apply Kd.N_drewN|apply Kd.N_drew));exact Kd.N_mono (Kd.N_far (p:=⟨gb156,4,none⟩) (Kd.N_mono HO_8.out (fun k_ hk=>(⟨hk,hk.2.2⟩:_∧k_≠gb156))) (fun _ hk=>hk.2) (.int .i64 (wrap64 ((wrap64 (x157004_5+(((rd_T52 x8_1 x22_5).f2).length:Int))) - ((rd_T52 x8_1 x22_5).f1))))) (fun _ hk=>⟨hk.1.1,⟨hk.1.2.1,hk.1.2.2⟩⟩)⟩,⟨by (try simp only [hl8_1]);(with_reducible repeat (first|apply Kd.R_alloc|apply Kd.R_drewN|apply Kd.R_drew));exact Kd.R_mono (Kd.R_far (p:=⟨gb156,4,none⟩) (Kd.R_types HO_9.out BK156.out (by decide)) (fun _ hk=>hk.2) (.int .i64 (wrap64 ((wrap64 (x157004_5+(((rd_T52 x8_1 x22_5).f2).length:Int))) - ((rd_T52 x8_1 x22_5).f1))))) (fun _ hk=>trivial)⟩,⟨by (try simp only [hl8_1]);(with_reducible repeat (first|apply Kd.R_alloc|apply Kd.R_drewN|apply Kd.R_drew));exact Kd.R_mono (Kd.R_far (p:=⟨gb156,4,none⟩) (Kd.R_mono HO_10.out (fun k_ hk=>(⟨hk,hk⟩:_∧k_≠gb156))) (fun _ hk=>hk.2) (.int .i64 (wrap64 ((wrap64 (x157004_5+(((rd_T52 x8_1 x22_5).f2).length:Int))) - ((rd_T52 x8_1 x22_5).f1))))) (fun _ hk=>hk.1)⟩,⟨by (try simp only [hl8_1]);(with_reducible repeat (first|refine blk_drewN ?_ _|refine blk_drew ?_|refine blk_alloc ?_ _));refine blk_put (cs:=#[.int .i64 0,.int .i64 x15_2,.int .i64 0,.int .i64 x12_25,.int .i64 x157004_5,.int .i64 x13_25,.int .i64 x157006_5]) ?_ 4 _ rfl;(with_reducible repeat (first|refine blk_drewN ?_ _|refine blk_drew ?_|refine blk_alloc ?_ _));exact BK156.out⟩,⟨by repeat (first|(with_reducible first|exact HB.out|apply below_alloc|apply pw_below_drewN|apply below_drew1|refine below_set ?_ GE156.out)|exact HB.out)⟩⟩
  skip
  rw [if_neg c41] at H
  have c41b0:decide (x22_5<(t132.length:Int))=false:=decide_eq_false c41
  clear c41
  have H':=Aside0.mk H
  clear H
  try go_wp2
  have n0_:=Aside0.mk (Kd.N_drew HO_7.out)
  have n1_:=Aside0.mk (Kd.N_drew HO_8.out)
  have n2_:=Aside0.mk (Kd.R_drew HO_9.out)
  have n3_:=Aside0.mk (Kd.R_drew HO_10.out)
  have n4_:=Aside0.mk (blk_drew BK156.out)
  have n5_:=Aside0.mk (below_drew1 HB.out)
  clear HO_7
  clear HO_8
  clear HO_9
  clear HO_10
  clear BK156
  clear HB
  have HO_7:=n0_
  have HO_8:=n1_
  have HO_9:=n2_
  have HO_10:=n3_
  have BK156:=n4_
  have HB:=n5_
  clear n0_ n1_ n2_ n3_ n4_ n5_
  obtain ⟨Ao48,co48,eo48⟩:=Kd.R_slice HO_9.out
  (first|subst eo48|(injection eo48 with f1_ f2_ f3_;have f4_:=f1_.symm;have f5_:=f3_.symm;clear f1_ f2_ f3_;subst f4_;subst f5_))
  have p157:0≤(x22_5:Int):=of_decide_eq_true asm
  have q157:x22_5<(t147.length:Int):=of_decide_eq_true asm
  obtain ⟨ad157,e157,hx157_0⟩:=Kd.at_int (Kd.R_reads' HO_9.out).2.2 x22_5 p157 q157
  cases e157
  replace p157:=eq_true p157
  replace q157:=eq_true q157
  have p158:0≤(x14_2:Int):=of_decide_eq_true asm
  have q158:x14_2<(t147.length:Int):=of_decide_eq_true asm
  obtain ⟨ad158,e158,hx158_0⟩:=Kd.at_int (Kd.R_reads' HO_9.out).2.2 x14_2 p158 q158
  obtain rfl:ad157=ad158:=(by injection e158)
  replace p158:=eq_true p158
  replace q158:=eq_true q158
  refine start_ (n:=9) (S:=fun w'=>w'.cell? (ad157.add (x22_5).toNat)=some (.int .i64 (rd t147 x22_5))∧w'.cell? (ad157.add (x14_2).toNat)=some (.int .i64 (rd t147 x14_2))) (ds:=[]) #[false,false,false,false,false,false,false,false,false] (by kernel_rfl) rfl rfl ⟨hx157_0,hx158_0⟩ (fun hHeld=>?_);refine with_tabW r08_Regions.tab31 r08_Regions.bits31 (fun HT_ HW_=>?_)
  generalize wr.drew=w47 at HO_7 HO_8 HO_9 HO_10 BK156 HB hx157_0 hx158_0 hHeld ⊢
  refine pure_ (i:=0) (N:=some 123) (v:=?_) (a':=?_) #[true,false,false,false,false,false,false,false,false] rfl rfl (any_of HT_.out (by kernel_rfl)) (fun _ _ _ h=>h) (Or.inl ⟨by rfl,?_⟩) ?_ ?_
  rotate_left
  ·intro w'
   go_simp
   with_reducible rfl
  rotate_left
  ·simp only [Act.put,za,zb,zc,i64_w,i32_w]
   rfl
  refine pure_ (i:=1) (N:=some 124) (v:=?_) (a':=?_) #[true,true,false,false,false,false,false,false,false] rfl rfl (any_of HT_.out (by kernel_rfl)) (fun _ _ _ h=>h) (Or.inl ⟨by rfl,?_⟩) ?_ ?_
  rotate_left
  ·intro w'
   go_simp
   with_reducible rfl
  rotate_left
  ·simp only [Act.put,za,zb,zc,i64_w,i32_w]
   rfl
  refine pure_ (i:=2) (N:=some 125) (v:=?_) (a':=?_) #[true,true,true,false,false,false,false,false,false] rfl rfl (any_of HT_.out (by kernel_rfl)) (fun _ _ _ h=>h) (Or.inl ⟨by rfl,?_⟩) ?_ ?_
  rotate_left
  ·intro w'
   go_simp
   with_reducible rfl
  rotate_left
  ·simp only [Act.put,za,zb,zc,i64_w,i32_w]
   rfl
  refine pure_ (i:=4) (N:=some 127) (v:=?_) (a':=?_) #[true,true,true,false,true,false,false,false,false] rfl rfl (any_of HT_.out (by kernel_rfl)) (fun _ _ _ h=>h) (Or.inl ⟨by rfl,?_⟩) ?_ ?_
  rotate_left
  ·intro w'
   go_simp
   with_reducible rfl
  rotate_left
  ·simp only [Act.put,za,zb,zc,i64_w,i32_w]
   rfl
  refine pure_ (i:=5) (N:=some 128) (v:=?_) (a':=?_) #[true,true,true,false,true,true,false,false,false] rfl rfl (any_of HT_.out (by kernel_rfl)) (fun _ _ _ h=>h) (Or.inl ⟨by rfl,?_⟩) ?_ ?_
  rotate_left
  ·intro w'
   go_simp
   with_reducible rfl
  rotate_left
  ·simp only [Act.put,za,zb,zc,i64_w,i32_w]
   rfl
  refine pure_ (i:=6) (N:=some 129) (v:=?_) (a':=?_) #[true,true,true,false,true,true,true,false,false] rfl rfl (any_of HT_.out (by kernel_rfl)) (fun _ _ _ h=>h) (Or.inl ⟨by rfl,?_⟩) ?_ ?_
  rotate_left
  ·intro w'
   go_simp
   with_reducible rfl
  rotate_left
  ·simp only [Act.put,za,zb,zc,i64_w,i32_w]
   rfl
  refine take_ (i:=3) (N:=some 126) (v:=?_) (a':=?_) #[true,true,true,true,true,true,true,false,false] rfl rfl (take_ofW HT_.out HW_.out (by kernel_rfl)) (fun _ _ _ h=>h) (Or.inl ⟨by rfl,?_⟩) hHeld ?_ ?_
  rotate_left
  ·rintro w' ⟨s0,s1⟩
   go_simp
   with_reducible rfl
  rotate_left
  ·simp only [Act.put,za,zb,zc,i64_w,i32_w]
   rfl
  refine take_ (i:=7) (N:=some 130) (v:=?_) (a':=?_) #[true,true,true,true,true,true,true,true,false] rfl rfl (take_ofW HT_.out HW_.out (by kernel_rfl)) (fun _ _ _ h=>h) (Or.inl ⟨by rfl,?_⟩) hHeld ?_ ?_
  rotate_left
  ·rintro w' ⟨s0,s1⟩
   go_simp
   with_reducible rfl
  rotate_left
  ·simp only [Act.put,za,zb,zc,i64_w,i32_w]
   rfl
  refine pure_ (i:=8) (N:=some 131) (v:=?_) (a':=?_) #[true,true,true,true,true,true,true,true,true] rfl rfl (any_of HT_.out (by kernel_rfl)) (fun _ _ _ h=>h) (Or.inl ⟨by rfl,?_⟩) ?_ ?_
  rotate_left
  ·intro w'
   go_simp
   with_reducible rfl
  rotate_left
  ·simp only [Act.put,za,zb,zc,i64_w,i32_w]
   rfl
  refine done_ (done_of HT_.out (by kernel_rfl)) ?_
  try go_wp2
  have n0_:=Aside0.mk (Kd.N_drew HO_7.out)
  have n1_:=Aside0.mk (Kd.N_drew HO_8.out)
  have n2_:=Aside0.mk (Kd.R_drew HO_9.out)
  have n3_:=Aside0.mk (Kd.R_drew HO_10.out)
  have n4_:=Aside0.mk (blk_drew BK156.out)
  have n5_:=Aside0.mk (below_drew1 HB.out)
  clear HO_7
  clear HO_8
  clear HO_9
  clear HO_10
  clear BK156
  clear HB
  have HO_7:=n0_
  have HO_8:=n1_
  have HO_9:=n2_
  have HO_10:=n3_
  have BK156:=n4_
  have HB:=n5_
  clear n0_ n1_ n2_ n3_ n4_ n5_
  have p159:0≤(x22_5:Int):=of_decide_eq_true asm
  have q159:x22_5<(x8_1.length:Int):=of_decide_eq_true asm
  obtain ⟨ad159,A159_2,c159_2,e159,hx159_0,hx159_1,hx159_2,hl159_2,hi159_2⟩:=at_T52 (Kd.N_reads' HO_8.out).2.2 x22_5 p159 q159
  cases e159
  obtain ⟨ce159,hce159,hMe159,hcc159⟩:=Kd.N_get HO_8.out z52 x22_5 p159 (by first|exact q159|exact of_decide_eq_true asm|(have e_:=(Kd.N_reads' HO_8.out).1;omega))
  obtain ⟨ua159_2,uc159_2,rfl,ul159_2,ge159_2⟩:=k52_openF hMe159
  have hv159_2:=hcc159 2 _ rfl
  rw [add_field _ _ 2 (by omega)] at hv159_2
  replace hv159_2:=Option.some.inj (hv159_2.symm.trans hx159_2)
  injection hv159_2 with hva_ hvn_ hvc_
  rw [hva_] at ge159_2
  rw [hvc_] at ul159_2
  have HL159_2:=Aside0.mk (show Kd.V Kd.string 9 _ w.heap.size _ _ ((rd_T52 x8_1 x22_5).f2) from Kd.V_mk ul159_2 ge159_2)
  clear hva_ hvn_ hvc_ ge159_2 ul159_2
  clear hcc159 hce159
  have HR159_2:=Aside0.mk hi159_2
  have HC159_2:=Aside0.mk hl159_2
  clear hi159_2 hl159_2
  replace p159:=eq_true p159
  replace q159:=eq_true q159
  have p160:0≤(x22_5:Int):=of_decide_eq_true asm
  have q160:x22_5<(x8_1.length:Int):=of_decide_eq_true asm
  obtain ⟨ad160,A160_2,c160_2,e160,hx160_0,hx160_1,hx160_2,hl160_2,hi160_2⟩:=at_T52 (Kd.N_reads' HO_8.out).2.2 x22_5 p160 q160
  obtain rfl:ad159=ad160:=(by injection e160)
  obtain ⟨ce160,hce160,hMe160,hcc160⟩:=Kd.N_get HO_8.out z52 x22_5 p160 (by first|exact q160|exact of_decide_eq_true asm|(have e_:=(Kd.N_reads' HO_8.out).1;omega))
  obtain ⟨ua160_2,uc160_2,rfl,ul160_2,ge160_2⟩:=k52_openF hMe160
  have hv160_2:=hcc160 2 _ rfl
  rw [add_field _ _ 2 (by omega)] at hv160_2
  replace hv160_2:=Option.some.inj (hv160_2.symm.trans hx160_2)
  injection hv160_2 with hva_ hvn_ hvc_
  rw [hva_] at ge160_2
  rw [hvc_] at ul160_2
  have HL160_2:=Aside0.mk (show Kd.V Kd.string 9 _ w.heap.size _ _ ((rd_T52 x8_1 x22_5).f2) from Kd.V_mk ul160_2 ge160_2)
  clear hva_ hvn_ hvc_ ge160_2 ul160_2
  clear hcc160 hce160
  have HR160_2:=Aside0.mk hi160_2
  have HC160_2:=Aside0.mk hl160_2
  clear hi160_2 hl160_2
  replace p160:=eq_true p160
  replace q160:=eq_true q160
  have ea_:=Option.some.inj (hx159_2.symm.trans hx160_2)
  injection ea_ with ea_ en_ ec_
  subst ea_
  subst ec_
  clear en_
  refine start_ (n:=14) (S:=fun w'=>w'.cell? (ad159.add ((x22_5).toNat * 3))=some (.int .i64 ((rd_T52 x8_1 x22_5).f0))∧w'.cell? ⟨(ad159.add ((x22_5).toNat * 3)).block,(ad159.add ((x22_5).toNat * 3)).off+1,none⟩=some (.int .i64 ((rd_T52 x8_1 x22_5).f1))∧w'.cell? ⟨(ad159.add ((x22_5).toNat * 3)).block,(ad159.add ((x22_5).toNat * 3)).off+2,none⟩=some (.slice A159_2 ((rd_T52 x8_1 x22_5).f2).length c159_2)∧w'.cell? (ad159.add ((x22_5).toNat * 3))=some (.int .i64 ((rd_T52 x8_1 x22_5).f0))∧w'.cell? ⟨(ad159.add ((x22_5).toNat * 3)).block,(ad159.add ((x22_5).toNat * 3)).off+1,none⟩=some (.int .i64 ((rd_T52 x8_1 x22_5).f1))∧w'.cell? ⟨(ad159.add ((x22_5).toNat * 3)).block,(ad159.add ((x22_5).toNat * 3)).off+2,none⟩=some (.slice A159_2 ((rd_T52 x8_1 x22_5).f2).length c159_2)) (ds:=[]) #[false,false,false,false,false,false,false,false,false,false,false,false,false,false] (by kernel_rfl) rfl rfl ⟨hx159_0,hx159_1,hx159_2,hx160_0,hx160_1,hx160_2⟩ (fun hHeld=>?_);refine with_tabW r08_Regions.tab32 r08_Regions.bits32 (fun HT_ HW_=>?_)
  generalize w47.drew=w49 at HO_7 HO_8 HO_9 HO_10 BK156 HB HL159_2 HL160_2 HR159_2 HR160_2 hx159_0 hx159_1 hx159_2 hx160_0 hx160_1 hx160_2 hHeld ⊢
  refine pure_ (i:=0) (N:=some 132) (v:=?_) (a':=?_) #[true,false,false,false,false,false,false,false,false,false,false,false,false,false] rfl rfl (any_of HT_.out (by kernel_rfl)) (fun _ _ _ h=>h) (Or.inl ⟨by rfl,?_⟩) ?_ ?_
  rotate_left
  ·intro w'
   go_simp
   with_reducible rfl
  rotate_left
  ·simp only [Act.put,za,zb,zc,i64_w,i32_w]
   rfl
  refine pure_ (i:=1) (N:=some 133) (v:=?_) (a':=?_) #[true,true,false,false,false,false,false,false,false,false,false,false,false,false] rfl rfl (any_of HT_.out (by kernel_rfl)) (fun _ _ _ h=>h) (Or.inl ⟨by rfl,?_⟩) ?_ ?_
  rotate_left
  ·intro w'
   go_simp
   with_reducible rfl
  rotate_left
  ·simp only [Act.put,za,zb,zc,i64_w,i32_w]
   rfl
  refine pure_ (i:=2) (N:=some 134) (v:=?_) (a':=?_) #[true,true,true,false,false,false,false,false,false,false,false,false,false,false] rfl rfl (any_of HT_.out (by kernel_rfl)) (fun _ _ _ h=>h) (Or.inl ⟨by rfl,?_⟩) ?_ ?_
  rotate_left
  ·intro w'
   go_simp
   with_reducible rfl
  rotate_left
  ·simp only [Act.put,za,zb,zc,i64_w,i32_w]
   rfl
  refine pure_ (i:=3) (N:=some 135) (v:=?_) (a':=?_) #[true,true,true,true,false,false,false,false,false,false,false,false,false,false] rfl rfl (any_of HT_.out (by kernel_rfl)) (fun _ _ _ h=>h) (Or.inl ⟨by rfl,?_⟩) ?_ ?_
  rotate_left
  ·intro w'
   go_simp
   with_reducible rfl
  rotate_left
  ·simp only [Act.put,za,zb,zc,i64_w,i32_w]
   rfl
  refine pure_ (i:=4) (N:=some 136) (v:=?_) (a':=?_) #[true,true,true,true,true,false,false,false,false,false,false,false,false,false] rfl rfl (any_of HT_.out (by kernel_rfl)) (fun _ _ _ h=>h) (Or.inl ⟨by rfl,?_⟩) ?_ ?_
  rotate_left
  ·intro w'
   go_simp
   with_reducible rfl
  rotate_left
  ·simp only [Act.put,za,zb,zc,i64_w,i32_w]
   rfl
  refine pure_ (i:=6) (N:=some 138) (v:=?_) (a':=?_) #[true,true,true,true,true,false,true,false,false,false,false,false,false,false] rfl rfl (any_of HT_.out (by kernel_rfl)) (fun _ _ _ h=>h) (Or.inl ⟨by rfl,?_⟩) ?_ ?_
  rotate_left
  ·intro w'
   go_simp
   with_reducible rfl
  rotate_left
  ·simp only [Act.put,za,zb,zc,i64_w,i32_w]
   rfl
  refine pure_ (i:=7) (N:=some 139) (v:=?_) (a':=?_) #[true,true,true,true,true,false,true,true,false,false,false,false,false,false] rfl rfl (any_of HT_.out (by kernel_rfl)) (fun _ _ _ h=>h) (Or.inl ⟨by rfl,?_⟩) ?_ ?_
  rotate_left
  ·intro w'
   go_simp
   with_reducible rfl
  rotate_left
  ·simp only [Act.put,za,zb,zc,i64_w,i32_w]
   rfl
  refine pure_ (i:=8) (N:=some 140) (v:=?_) (a':=?_) #[true,true,true,true,true,false,true,true,true,false,false,false,false,false] rfl rfl (any_of HT_.out (by kernel_rfl)) (fun _ _ _ h=>h) (Or.inl ⟨by rfl,?_⟩) ?_ ?_
  rotate_left
  ·intro w'
   go_simp
   with_reducible rfl
  rotate_left
  ·simp only [Act.put,za,zb,zc,i64_w,i32_w]
   rfl
  refine pure_ (i:=9) (N:=some 141) (v:=?_) (a':=?_) #[true,true,true,true,true,false,true,true,true,true,false,false,false,false] rfl rfl (any_of HT_.out (by kernel_rfl)) (fun _ _ _ h=>h) (Or.inl ⟨by rfl,?_⟩) ?_ ?_
  rotate_left
  ·intro w'
   go_simp
   with_reducible rfl
  rotate_left
  ·simp only [Act.put,za,zb,zc,i64_w,i32_w]
   rfl
  refine take_ (i:=5) (N:=some 137) (v:=?_) (a':=?_) #[true,true,true,true,true,true,true,true,true,true,false,false,false,false] rfl rfl (take_ofW HT_.out HW_.out (by kernel_rfl)) (fun _ _ _ h=>h) (Or.inl ⟨by rfl,?_⟩) hHeld ?_ ?_
  rotate_left
  ·rintro w' ⟨s0,s1,s2,s3,s4,s5⟩
   go_simp
   with_reducible rfl
  rotate_left
  ·simp only [Act.put,za,zb,zc,i64_w,i32_w]
   rfl
  refine take_ (i:=10) (N:=some 142) (v:=?_) (a':=?_) #[true,true,true,true,true,true,true,true,true,true,true,false,false,false] rfl rfl (take_ofW HT_.out HW_.out (by kernel_rfl)) (fun _ _ _ h=>h) (Or.inl ⟨by rfl,?_⟩) hHeld ?_ ?_
  rotate_left
  ·rintro w' ⟨s0,s1,s2,s3,s4,s5⟩
   go_simp
   with_reducible rfl
  rotate_left
  ·simp only [Act.put,za,zb,zc,i64_w,i32_w]
   rfl
  refine pure_ (i:=11) (N:=some 143) (v:=?_) (a':=?_) #[true,true,true,true,true,true,true,true,true,true,true,true,false,false] rfl rfl (any_of HT_.out (by kernel_rfl)) (fun _ _ _ h=>h) (Or.inl ⟨by rfl,?_⟩) ?_ ?_
  rotate_left
  ·intro w'
   go_simp
   with_reducible rfl
  rotate_left
  ·simp only [Act.put,za,zb,zc,i64_w,i32_w]
   rfl
  refine pure_ (i:=12) (N:=some 144) (v:=?_) (a':=?_) #[true,true,true,true,true,true,true,true,true,true,true,true,true,false] rfl rfl (any_of HT_.out (by kernel_rfl)) (fun _ _ _ h=>h) (Or.inl ⟨by rfl,?_⟩) ?_ ?_
  rotate_left
  ·intro w'
   go_simp
   with_reducible rfl
  rotate_left
  ·simp only [Act.put,za,zb,zc,i64_w,i32_w]
   rfl
  refine pure_ (i:=13) (N:=some 19) (v:=?_) (a':=?_) #[true,true,true,true,true,true,true,true,true,true,true,true,true,true] rfl rfl (any_of HT_.out (by kernel_rfl)) (fun _ _ _ h=>h) (Or.inl ⟨by rfl,?_⟩) ?_ ?_
  rotate_left
  ·intro w'
   go_simp
   with_reducible rfl
  rotate_left
  ·simp only [Act.put,za,zb,zc,i64_w,i32_w]
   rfl
  refine done_ (done_of HT_.out (by kernel_rfl)) ?_
  try go_wp2
  have n0_:=Aside0.mk (Kd.N_drew HO_7.out)
  have n1_:=Aside0.mk (Kd.N_drew HO_8.out)
  have n2_:=Aside0.mk (Kd.R_drew HO_9.out)
  have n3_:=Aside0.mk (Kd.R_drew HO_10.out)
  have n4_:=Aside0.mk (Kd.V_drew HL159_2.out)
  have n5_:=Aside0.mk (Kd.V_drew HL160_2.out)
  have n6_:=Aside0.mk (blk_drew BK156.out)
  have n7_:=Aside0.mk (Kd.C_drew HR159_2.out)
  have n8_:=Aside0.mk (Kd.C_drew HR160_2.out)
  have n9_:=Aside0.mk (below_drew1 HB.out)
  clear HO_7
  clear HO_8
  clear HO_9
  clear HO_10
  clear HL159_2
  clear HL160_2
  clear BK156
  clear HR159_2
  clear HR160_2
  clear HB
  have HO_7:=n0_
  have HO_8:=n1_
  have HO_9:=n2_
  have HO_10:=n3_
  have HL159_2:=n4_
  have HL160_2:=n5_
  have BK156:=n6_
  have HR159_2:=n7_
  have HR160_2:=n8_
  have HB:=n9_
  clear n0_ n1_ n2_ n3_ n4_ n5_ n6_ n7_ n8_ n9_
  have p163:0≤(x22_5:Int):=of_decide_eq_true asm
  have q163:x22_5<(x8_1.length:Int):=of_decide_eq_true asm
  obtain ⟨ad163,A163_2,c163_2,e163,hx163_0,hx163_1,hx163_2,hl163_2,hi163_2⟩:=at_T52 (Kd.N_reads' HO_8.out).2.2 x22_5 p163 q163
  obtain rfl:ad159=ad163:=(by injection e163)
  obtain ⟨ce163,hce163,hMe163,hcc163⟩:=Kd.N_get HO_8.out z52 x22_5 p163 (by first|exact q163|exact of_decide_eq_true asm|(have e_:=(Kd.N_reads' HO_8.out).1;omega))
  obtain ⟨ua163_2,uc163_2,rfl,ul163_2,ge163_2⟩:=k52_openF hMe163
  have hv163_2:=hcc163 2 _ rfl
  rw [add_field _ _ 2 (by omega)] at hv163_2
  replace hv163_2:=Option.some.inj (hv163_2.symm.trans hx163_2)
  injection hv163_2 with hva_ hvn_ hvc_
  rw [hva_] at ge163_2
  rw [hvc_] at ul163_2
  have HL163_2:=Aside0.mk (show Kd.V Kd.string 9 _ w.heap.size _ _ ((rd_T52 x8_1 x22_5).f2) from Kd.V_mk ul163_2 ge163_2)
  clear hva_ hvn_ hvc_ ge163_2 ul163_2
  clear hcc163 hce163
  have HR163_2:=Aside0.mk hi163_2
  have HC163_2:=Aside0.mk hl163_2
  clear hi163_2 hl163_2
  replace p163:=eq_true p163
  replace q163:=eq_true q163
  have p164:0≤(x22_5:Int):=of_decide_eq_true asm
  have q164:x22_5<(x8_1.length:Int):=of_decide_eq_true asm
  obtain ⟨ad164,A164_2,c164_2,e164,hx164_0,hx164_1,hx164_2,hl164_2,hi164_2⟩:=at_T52 (Kd.N_reads' HO_8.out).2.2 x22_5 p164 q164
  obtain rfl:ad159=ad164:=(by injection e164)
  obtain ⟨ce164,hce164,hMe164,hcc164⟩:=Kd.N_get HO_8.out z52 x22_5 p164 (by first|exact q164|exact of_decide_eq_true asm|(have e_:=(Kd.N_reads' HO_8.out).1;omega))
  obtain ⟨ua164_2,uc164_2,rfl,ul164_2,ge164_2⟩:=k52_openF hMe164
  have hv164_2:=hcc164 2 _ rfl
  rw [add_field _ _ 2 (by omega)] at hv164_2
  replace hv164_2:=Option.some.inj (hv164_2.symm.trans hx164_2)
  injection hv164_2 with hva_ hvn_ hvc_
  rw [hva_] at ge164_2
  rw [hvc_] at ul164_2
  have HL164_2:=Aside0.mk (show Kd.V Kd.string 9 _ w.heap.size _ _ ((rd_T52 x8_1 x22_5).f2) from Kd.V_mk ul164_2 ge164_2)
  clear hva_ hvn_ hvc_ ge164_2 ul164_2
  clear hcc164 hce164
  have HR164_2:=Aside0.mk hi164_2
  have HC164_2:=Aside0.mk hl164_2
  clear hi164_2 hl164_2
  replace p164:=eq_true p164
  replace q164:=eq_true q164
  have ea_:=Option.some.inj (hx163_2.symm.trans hx164_2)
  injection ea_ with ea_ en_ ec_
  subst ea_
  subst ec_
  clear en_
  refine start_ (n:=19) (S:=fun w'=>w'.cell? ⟨gb156,0,none⟩=some (.int .i64 0)∧w'.cell? ⟨gb156,1,none⟩=some (.int .i64 x15_2)∧w'.cell? ⟨gb156,2,none⟩=some (.int .i64 0)∧w'.cell? ⟨gb156,3,none⟩=some (.int .i64 x12_25)∧w'.cell? ⟨gb156,4,none⟩=some (.int .i64 x157004_5)∧w'.cell? ⟨gb156,5,none⟩=some (.int .i64 x13_25)∧w'.cell? ⟨gb156,6,none⟩=some (.int .i64 x157006_5)∧w'.cell? (ad159.add ((x22_5).toNat * 3))=some (.int .i64 ((rd_T52 x8_1 x22_5).f0))∧w'.cell? ⟨(ad159.add ((x22_5).toNat * 3)).block,(ad159.add ((x22_5).toNat * 3)).off+1,none⟩=some (.int .i64 ((rd_T52 x8_1 x22_5).f1))∧w'.cell? ⟨(ad159.add ((x22_5).toNat * 3)).block,(ad159.add ((x22_5).toNat * 3)).off+2,none⟩=some (.slice A163_2 ((rd_T52 x8_1 x22_5).f2).length c163_2)∧w'.cell? (ad159.add ((x22_5).toNat * 3))=some (.int .i64 ((rd_T52 x8_1 x22_5).f0))∧w'.cell? ⟨(ad159.add ((x22_5).toNat * 3)).block,(ad159.add ((x22_5).toNat * 3)).off+1,none⟩=some (.int .i64 ((rd_T52 x8_1 x22_5).f1))∧w'.cell? ⟨(ad159.add ((x22_5).toNat * 3)).block,(ad159.add ((x22_5).toNat * 3)).off+2,none⟩=some (.slice A163_2 ((rd_T52 x8_1 x22_5).f2).length c163_2)) (ds:=[18]) #[false,false,false,false,false,false,false,false,false,false,false,false,false,false,false,false,false,false,false] (by kernel_rfl) rfl rfl ⟨(blk_cell BK156.out 0).trans rfl,(blk_cell BK156.out 1).trans rfl,(blk_cell BK156.out 2).trans rfl,(blk_cell BK156.out 3).trans rfl,(blk_cell BK156.out 4).trans rfl,(blk_cell BK156.out 5).trans rfl,(blk_cell BK156.out 6).trans rfl,hx163_0,hx163_1,hx163_2,hx164_0,hx164_1,hx164_2⟩ (fun hHeld=>?_);refine with_tabW r08_Regions.tab36 r08_Regions.bits36 (fun HT_ HW_=>?_)
  generalize w49.drew=w50 at HO_7 HO_8 HO_9 HO_10 HL159_2 HL160_2 BK156 HR159_2 HR160_2 HB HL163_2 HL164_2 HR163_2 HR164_2 hx163_0 hx163_1 hx163_2 hx164_0 hx164_1 hx164_2 hHeld ⊢
  refine pure_ (i:=0) (N:=some 167) (v:=?_) (a':=?_) #[true,false,false,false,false,false,false,false,false,false,false,false,false,false,false,false,false,false,false] rfl rfl (any_of HT_.out (by kernel_rfl)) (fun _ _ _ h=>h) (Or.inl ⟨by rfl,?_⟩) ?_ ?_
  rotate_left
  ·intro w'
   go_simp
   with_reducible rfl
  rotate_left
  ·simp only [Act.put,za,zb,zc,i64_w,i32_w]
   rfl
  refine pure_ (i:=1) (N:=some 168) (v:=?_) (a':=?_) #[true,true,false,false,false,false,false,false,false,false,false,false,false,false,false,false,false,false,false] rfl rfl (any_of HT_.out (by kernel_rfl)) (fun _ _ _ h=>h) (Or.inl ⟨by rfl,?_⟩) ?_ ?_
  rotate_left
  ·intro w'
   go_simp
   with_reducible rfl
  rotate_left
  ·simp only [Act.put,za,zb,zc,i64_w,i32_w]
   rfl
  refine pure_ (i:=3) (N:=some 170) (v:=?_) (a':=?_) #[true,true,false,true,false,false,false,false,false,false,false,false,false,false,false,false,false,false,false] rfl rfl (any_of HT_.out (by kernel_rfl)) (fun _ _ _ h=>h) (Or.inl ⟨by rfl,?_⟩) ?_ ?_
  rotate_left
  ·intro w'
   go_simp
   with_reducible rfl
  rotate_left
  ·simp only [Act.put,za,zb,zc,i64_w,i32_w]
   rfl
  refine pure_ (i:=4) (N:=some 171) (v:=?_) (a':=?_) #[true,true,false,true,true,false,false,false,false,false,false,false,false,false,false,false,false,false,false] rfl rfl (any_of HT_.out (by kernel_rfl)) (fun _ _ _ h=>h) (Or.inl ⟨by rfl,?_⟩) ?_ ?_
  rotate_left
  ·intro w'
   go_simp
   with_reducible rfl
  rotate_left
  ·simp only [Act.put,za,zb,zc,i64_w,i32_w]
   rfl
  refine pure_ (i:=5) (N:=some 172) (v:=?_) (a':=?_) #[true,true,false,true,true,true,false,false,false,false,false,false,false,false,false,false,false,false,false] rfl rfl (any_of HT_.out (by kernel_rfl)) (fun _ _ _ h=>h) (Or.inl ⟨by rfl,?_⟩) ?_ ?_
  rotate_left
  ·intro w'
   go_simp
   with_reducible rfl
  rotate_left
  ·simp only [Act.put,za,zb,zc,i64_w,i32_w]
   rfl
  refine pure_ (i:=6) (N:=some 173) (v:=?_) (a':=?_) #[true,true,false,true,true,true,true,false,false,false,false,false,false,false,false,false,false,false,false] rfl rfl (any_of HT_.out (by kernel_rfl)) (fun _ _ _ h=>h) (Or.inl ⟨by rfl,?_⟩) ?_ ?_
  rotate_left
  ·intro w'
   go_simp
   with_reducible rfl
  rotate_left
  ·simp only [Act.put,za,zb,zc,i64_w,i32_w]
   rfl
  refine pure_ (i:=10) (N:=some 177) (v:=?_) (a':=?_) #[true,true,false,true,true,true,true,false,false,false,true,false,false,false,false,false,false,false,false] rfl rfl (any_of HT_.out (by kernel_rfl)) (fun _ _ _ h=>h) (Or.inl ⟨by rfl,?_⟩) ?_ ?_
  rotate_left
  ·intro w'
   go_simp
   with_reducible rfl
  rotate_left
  ·simp only [Act.put,za,zb,zc,i64_w,i32_w]
   rfl
  refine pure_ (i:=11) (N:=some 178) (v:=?_) (a':=?_) #[true,true,false,true,true,true,true,false,false,false,true,true,false,false,false,false,false,false,false] rfl rfl (any_of HT_.out (by kernel_rfl)) (fun _ _ _ h=>h) (Or.inl ⟨by rfl,?_⟩) ?_ ?_
  rotate_left
  ·intro w'
   go_simp
   with_reducible rfl
  rotate_left
  ·simp only [Act.put,za,zb,zc,i64_w,i32_w]
   rfl
  refine pure_ (i:=12) (N:=some 179) (v:=?_) (a':=?_) #[true,true,false,true,true,true,true,false,false,false,true,true,true,false,false,false,false,false,false] rfl rfl (any_of HT_.out (by kernel_rfl)) (fun _ _ _ h=>h) (Or.inl ⟨by rfl,?_⟩) ?_ ?_
  rotate_left
  ·intro w'
   go_simp
   with_reducible rfl
  rotate_left
  ·simp only [Act.put,za,zb,zc,i64_w,i32_w]
   rfl
  refine pure_ (i:=13) (N:=some 180) (v:=?_) (a':=?_) #[true,true,false,true,true,true,true,false,false,false,true,true,true,true,false,false,false,false,false] rfl rfl (any_of HT_.out (by kernel_rfl)) (fun _ _ _ h=>h) (Or.inl ⟨by rfl,?_⟩) ?_ ?_
  rotate_left
  ·intro w'
   go_simp
   with_reducible rfl
  rotate_left
  ·simp only [Act.put,za,zb,zc,i64_w,i32_w]
   rfl
  refine take_ (i:=2) (N:=some 169) (v:=?_) (a':=?_) #[true,true,true,true,true,true,true,false,false,false,true,true,true,true,false,false,false,false,false] rfl rfl (take_ofW HT_.out HW_.out (by kernel_rfl)) (fun _ _ _ h=>h) (Or.inl ⟨by rfl,?_⟩) hHeld ?_ ?_
  rotate_left
  ·rintro w' ⟨s0,s1,s2,s3,s4,s5,s6,s7,s8,s9,s10,s11,s12⟩
   go_simp
   with_reducible rfl
  rotate_left
  ·simp only [Act.put,za,zb,zc,i64_w,i32_w]
   rfl
  refine take_ (i:=7) (N:=some 174) (v:=?_) (a':=?_) #[true,true,true,true,true,true,true,true,false,false,true,true,true,true,false,false,false,false,false] rfl rfl (take_ofW HT_.out HW_.out (by kernel_rfl)) (fun _ _ _ h=>h) (Or.inl ⟨by rfl,?_⟩) hHeld ?_ ?_
  rotate_left
  ·rintro w' ⟨s0,s1,s2,s3,s4,s5,s6,s7,s8,s9,s10,s11,s12⟩
   go_simp
   with_reducible rfl
  rotate_left
  ·simp only [Act.put,za,zb,zc,i64_w,i32_w]
   rfl
  refine pure_ (i:=8) (N:=some 175) (v:=?_) (a':=?_) #[true,true,true,true,true,true,true,true,true,false,true,true,true,true,false,false,false,false,false] rfl rfl (any_of HT_.out (by kernel_rfl)) (fun _ _ _ h=>h) (Or.inl ⟨by rfl,?_⟩) ?_ ?_
  rotate_left
  ·intro w'
   go_simp
   with_reducible rfl
  rotate_left
  ·simp only [Act.put,za,zb,zc,i64_w,i32_w]
   rfl
  refine pure_ (i:=9) (N:=some 176) (v:=?_) (a':=?_) #[true,true,true,true,true,true,true,true,true,true,true,true,true,true,false,false,false,false,false] rfl rfl (any_of HT_.out (by kernel_rfl)) (fun _ _ _ h=>h) (Or.inl ⟨by rfl,?_⟩) ?_ ?_
  rotate_left
  ·intro w'
   go_simp
   with_reducible rfl
  rotate_left
  ·simp only [Act.put,za,zb,zc,i64_w,i32_w]
   rfl
  refine take_ (i:=14) (N:=some 181) (v:=?_) (a':=?_) #[true,true,true,true,true,true,true,true,true,true,true,true,true,true,true,false,false,false,false] rfl rfl (take_ofW HT_.out HW_.out (by kernel_rfl)) (fun _ _ _ h=>h) (Or.inl ⟨by rfl,?_⟩) hHeld ?_ ?_
  rotate_left
  ·rintro w' ⟨s0,s1,s2,s3,s4,s5,s6,s7,s8,s9,s10,s11,s12⟩
   go_simp
   with_reducible rfl
  rotate_left
  ·simp only [Act.put,za,zb,zc,i64_w,i32_w]
   rfl
  refine pure_ (i:=15) (N:=some 182) (v:=?_) (a':=?_) #[true,true,true,true,true,true,true,true,true,true,true,true,true,true,true,true,false,false,false] rfl rfl (any_of HT_.out (by kernel_rfl)) (fun _ _ _ h=>h) (Or.inl ⟨by rfl,?_⟩) ?_ ?_
  rotate_left
  ·intro w'
   go_simp
   with_reducible rfl
  rotate_left
  ·simp only [Act.put,za,zb,zc,i64_w,i32_w]
   rfl
  refine pure_ (i:=16) (N:=some 183) (v:=?_) (a':=?_) #[true,true,true,true,true,true,true,true,true,true,true,true,true,true,true,true,true,false,false] rfl rfl (any_of HT_.out (by kernel_rfl)) (fun _ _ _ h=>h) (Or.inl ⟨by rfl,?_⟩) ?_ ?_
  rotate_left
  ·intro w'
   go_simp
   with_reducible rfl
  rotate_left
  ·simp only [Act.put,za,zb,zc,i64_w,i32_w]
   rfl
  refine pure_ (i:=17) (N:=some 184) (v:=?_) (a':=?_) #[true,true,true,true,true,true,true,true,true,true,true,true,true,true,true,true,true,true,false] rfl rfl (any_of HT_.out (by kernel_rfl)) (fun _ _ _ h=>h) (Or.inl ⟨by rfl,?_⟩) ?_ ?_
  rotate_left
  ·intro w'
   go_simp
   with_reducible rfl
  rotate_left
  ·simp only [Act.put,za,zb,zc,i64_w,i32_w]
   rfl
  refine last_ (i:=18) (N:=none) #[true,true,true,true,true,true,true,true,true,true,true,true,true,true,true,true,true,true,true] rfl rfl (one_of HT_.out (by kernel_rfl)) (by decide) (fun K hK=>?_)
  have hs51:w50.cell? ⟨gb156,6,none⟩=some (.int .i64 x157006_5):=(blk_cell BK156.out 6).trans rfl
  have hfs51:=blk_frozen BK156.out 6
  refine skip_ (w1:=?_) (by rfl) rfl ?_ ?_
  rotate_left
  ·go_simp
   rfl
  refine hK.out _ _ ?_
  clear hK K
  refine done_ (done_of HT_.out (by kernel_rfl)) ?_
  try go_wp2
  go_roundg k5
  case measure=>have:=HK1.out;have:=HK2.out;have:=HJ23.out;have:=HJ25.out;have:=HK5.out;omega
  case rel=>exact ⟨(ji40),(x20_5),(true),(wrap64 (x22_5+1)),(x157004_5),(wrap64 ((wrap64 (x157006_5+(((rd_T52 x8_1 x22_5).f2).length:Int))) - ((rd_T52 x8_1 x22_5).f1))),(by first|rfl|(simp;done)|(simp only [← hji40]<;>(first|rfl|simp))|(simp [*];done)),rx,rx,rx,H',⟨by have:=HK1.out;have:=HK2.out;have:=HJ23.out;have:=HJ25.out;have:=HK5.out;omega⟩,⟨by (try simp only [hl8_1]);(with_reducible repeat (first|apply Kd.N_alloc|apply Kd.N_drewN|apply Kd.N_drew));exact Kd.N_mono (Kd.N_far (p:=⟨gb156,6,none⟩) (Kd.N_mono HO_7.out (fun k_ hk=>(⟨hk,hk.2.2.2⟩:_∧k_≠gb156))) (fun _ hk=>hk.2) (.int .i64 (wrap64 ((wrap64 (x157006_5+(((rd_T52 x8_1 x22_5).f2).length:Int))) - ((rd_T52 x8_1 x22_5).f1))))) (fun _ hk=>⟨hk.1.1,⟨hk.1.2.1,⟨hk.1.2.2.1,hk.1.2.2.2⟩⟩⟩)⟩,⟨by (try simp only [hl8_1]);(with_reducible repeat (first|apply Kd.N_alloc|apply Kd.N_drewN|apply Kd.N_drew));exact Kd.N_mono (Kd.N_far (p:=⟨gb156,6,none⟩) (Kd.N_mono HO_8.out (fun k_ hk=>(⟨hk,hk.2.2⟩:_∧k_≠gb156))) (fun _ hk=>hk.2) (.int .i64 (wrap64 ((wrap64 (x157006_5+(((rd_T52 x8_1 x22_5).f2).length:Int))) - ((rd_T52 x8_1 x22_5).f1))))) (fun _ hk=>⟨hk.1.1,⟨hk.1.2.1,hk.1.2.2⟩⟩)⟩,⟨by (try simp only [hl8_1]);(with_reducible repeat (first|apply Kd.R_alloc|apply Kd.R_drewN|apply Kd.R_drew));exact Kd.R_mono (Kd.R_far (p:=⟨gb156,6,none⟩) (Kd.R_types HO_9.out BK156.out (by decide)) (fun _ hk=>hk.2) (.int .i64 (wrap64 ((wrap64 (x157006_5+(((rd_T52 x8_1 x22_5).f2).length:Int))) - ((rd_T52 x8_1 x22_5).f1))))) (fun _ hk=>trivial)⟩,⟨by (try simp only [hl8_1]);(with_reducible repeat (first|apply Kd.R_alloc|apply Kd.R_drewN|apply Kd.R_drew));exact Kd.R_mono (Kd.R_far (p:=⟨gb156,6,none⟩) (Kd.R_mono HO_10.out (fun k_ hk=>(⟨hk,hk⟩:_∧k_≠gb156))) (fun _ hk=>hk.2) (.int .i64 (wrap64 ((wrap64 (x157006_5+(((rd_T52 x8_1 x22_5).f2).length:Int))) - ((rd_T52 x8_1 x22_5).f1))))) (fun _ hk=>hk.1)⟩,⟨by (try simp only [hl8_1]);(with_reducible repeat (first|refine blk_drewN ?_ _|refine blk_drew ?_|refine blk_alloc ?_ _));refine blk_put (cs:=#[.int .i64 0,.int .i64 x15_2,.int .i64 0,.int .i64 x12_25,.int .i64 x157004_5,.int .i64 x13_25,.int .i64 x157006_5]) ?_ 6 _ rfl;(with_reducible repeat (first|refine blk_drewN ?_ _|refine blk_drew ?_|refine blk_alloc ?_ _));exact BK156.out⟩,⟨by repeat (first|(with_reducible first|exact HB.out|apply below_alloc|apply pw_below_drewN|apply below_drew1|refine below_set ?_ GE156.out)|exact HB.out)⟩⟩
 ⟩
end Go.Proofs.Ytnmphfelebkaiaa.Pr
-- shrunk
