/-
Several plain texts in one.
-/
import Derived.Test.YtnmphfelebkaiaaK5
import Derived.Test.YtnmphfelebkaiaaGAwakeA
import Derived.Test.YtnmphfelebkaiaaD6
import Derived.Deep.Strs
import Derived.SizedLaws
import Derived.ChangeOld
import Derived.Carry
import Derived.Test.YtnmphfelebkaiaaWWords
import Derived.Test.YtnmphfelebkaiaaWMore
import Derived.Test.YtnmphfelebkaiaaWLast
import Derived.KernelRfl
import Derived.Test.YtnmphfelebkaiaaK0
set_option linter.unusedVariables false
set_option linter.unusedSimpArgs false
/-
The law AlignTells, walked: both make the same regions.
-/
namespace Go.Proofs.Ytnmphfelebkaiaa.Pr
open Go.RowKit Go.Proofs.YtnmphfelebkaiaaW.PrintWords Go.Proofs.YtnmphfelebkaiaaW.PrintLast Go.Proofs.YtnmphfelebkaiaaW.PrintMore
theorem SameR_l0 (l:List S32) (hn:l.length≤1099511627776):∀ d i,l.length - i=d→i≤l.length→Ev (fun k=>r08_Same.l0 k l l (i:Int)) true:=by
 intro d
 induction d with
 | zero =>
  intro i hd hi
  refine Ev.step (fun _=>r08_Same.l0.eq_2 ..) ?_
  simp only [if_neg (show ¬ (i:Int)<(l.length:Int) by omega)]
  exact Ev.now _
 | succ d ih =>
  intro i hd hi
  have h0:i<l.length:=by omega
  refine Ev.step (fun _=>r08_Same.l0.eq_2 ..) ?_
  simp only [if_pos (show (i:Int)<(l.length:Int) by omega),if_pos (show 0≤(i:Int) by omega),beq_self_eq_true,Bool.not_true,Bool.or_self,Bool.false_eq_true,if_false,w_succ h0 (show l.length≤4611686018427387904 by omega)]
  exact ih (i+1) (by omega) (by omega)
theorem SameR_ev (l:List S32) (hn:l.length≤1099511627776):Ev (fun k=>r08_Same.f k l l) true:=by
 unfold r08_Same.f
 simp only [if_true]
 exact SameR_l0 l hn _ 0 rfl (by omega)
theorem doc_of (o a b:List ByteArray) (ho:o.length≤40) (ha:a.length≤40) (hb:b.length≤40):Doc o a b (between o a) (between o b):=by
 obtain ⟨b0,n0⟩:=between_b o a ho ha
 obtain ⟨b1,n1⟩:=between_b o b ho hb
 have k0:=(between_ok o a).1
 have k1:=(between_ok o b).1
 have q0:=len_le_size' _ _ _ k0
 have q1:=len_le_size' _ _ _ k1
 have s0:=between_size o a (small_mul' ho ha)
 have s1:=between_size o b (small_mul' ho hb)
 refine ⟨by omega,by omega,by omega,by rw [List.length_append];omega,fun k=>?_⟩
 by_cases hk:k<(between o a++between o b).length
 ·have hm:=edA_mem hk
  rcases List.mem_append.1 hm with hm|hm
  ·have h1:=okFrom_mem k0 _ hm
   have h2:=q0.2 _ hm
   omega
  have h1:=okFrom_mem k1 _ hm
  have h2:=q1.2 _ hm
  omega
 have e:edA (between o a++between o b) k=z52:=by
  unfold edA
  rw [List.getD_eq_getElem?_getD,List.getElem?_eq_none (by omega),Option.getD_none]
 rw [e]
 refine ⟨Int.le_refl _,Int.le_refl _,?_,Nat.zero_le _⟩
 show (0:Int)+0≤(o.length:Int)
 omega
theorem sw_start (o a b:List ByteArray) (ho:o.length≤40) (ha:a.length≤40) (hb:b.length≤40):Sw o a b (between o a) (between o b) (between o a++between o b) ⟨z32,[],0⟩ 0 0 0 0 0:=by
 have hnone:∀ k,inT 0 0 (between o a).length ((between o a).length+0) k=false:=by
  intro k;rw [inT_no];omega
 obtain ⟨_,n0⟩:=between_b o a ho ha
 obtain ⟨_,n1⟩:=between_b o b ho hb
 refine ⟨Nat.zero_le _,Nat.zero_le _,rfl,fun k=>by rw [hnone k];rfl,(fun i k hi=>by rw [hnone i] at hi;exact absurd hi (by decide)),inv_start o a b,?_⟩
 show 0+2 * (((between o a).drop 0).length+((between o b).drop 0).length)≤4194304
 rw [List.drop_zero,List.drop_zero]
 omega
theorem docRegions_ev (o a b:List ByteArray) (ho:o.length≤40) (ha:a.length≤40) (hb:b.length≤40):Ev (fun k=>r08_Regions.f k o a b) (regionsP o a b):=by
 have D:=doc_of o a b ho ha hb
 have S:=sw_start o a b ho ha hb
 have hs:=sweep D _ ⟨z32,[],0⟩ 0 0 _ 0 0 0 rfl S
 have hB:EdB (between o a++between o b):=fun i=>by
  have:=D.bnd i
  have:=D.lo
  omega
 have hm:=marks_ev hB (by have:=D.n;omega)
 have hn:=D.n
 rw [List.length_append] at hn
 obtain ⟨_,n0⟩:=between_b o a ho ha
 obtain ⟨_,n1⟩:=between_b o b ho hb
 have f0:r04_Diff.f o a=some (between o a):=by rw [r04_Diff.f,if_pos ⟨by omega,by omega⟩]
 have f1:r04_Diff.f o b=some (between o b):=by rw [r04_Diff.f,if_pos ⟨by omega,by omega⟩]
 have g0:([]:List S52).length+(between o a).length<3518437208883:=by rw [List.length_nil];omega
 have g1:(between o a).length+(between o b).length<3518437208883:=by omega
 unfold r08_Regions.f
 simp only [f0,f1,Option.bind_some,if_pos g0,List.nil_append]
 simp only [if_pos g1]
 refine Ev.bind hm ?_
 rw [List.drop_zero,List.drop_zero] at hs
 exact hs
theorem regions_len (o a b:List ByteArray) (ho:o.length≤40) (ha:a.length≤40) (hb:b.length≤40):(regionsP o a b).length≤1099511627776:=by
 have hi:=inv_start o a b
 obtain ⟨_,n0⟩:=between_b o a ho ha
 obtain ⟨_,n1⟩:=between_b o b ho hb
 have hf:=(run_end (o:=o) (a:=a) (b:=b) (by omega) (by omega) (by omega) _ _ _ _ _ _ _ rfl hi (by simp;omega)).1.len
 rw [regionsP,regionsR,endR]
 split
 ·rw [List.length_append,List.length_singleton];omega
 omega
def l08_AlignTells.f (k:Nat) (o a b:List ByteArray):Option Bool:=some true
theorem AlignTells_pure (o a b:List ByteArray) (yo:o.length * 16≤140737488351232) (zo:∀ s ∈ o,s.size≤140737488351232) (ya:a.length * 16≤140737488351232) (za:∀ s ∈ a,s.size≤140737488351232) (yb:b.length * 16≤140737488351232) (zb:∀ s ∈ b,s.size≤140737488351232) :
  ∃ k,l08_AlignTells.f k o a b=some true:=⟨0,rfl⟩
set_option maxRecDepth 100000 in
set_option maxHeartbeats 8000000 in
theorem l08_AlignTells.calls (k:Nat) (A1:Option Addr) (c1:Nat) (o:List ByteArray) (A2:Option Addr) (c2:Nat) (a:List ByteArray) (A3:Option Addr) (c3:Nat) (b:List ByteArray) (r:Bool) (w:World) (hrt_:Aside0 (r=true))
  (hr1:Kd.C Kd.string w A1 o.length o) (hc1:o.length≤c1) (hr2:Kd.C Kd.string w A2 a.length a) (hc2:a.length≤c2) (hr3:Kd.C Kd.string w A3 b.length b) (hc3:b.length≤c3) (h:l08_AlignTells.f k o a b=some r) :
  Calls Try.prog 3 #[.slice A1 o.length c1,.slice A2 a.length c2,.slice A3 b.length c3] w fun e w'=>e=.returned (.bool r)∧Below w.heap.size w w':=by
 obtain rfl:true=r:=Option.some.inj h
 clear h hrt_
 have HR1:=Aside0.mk hr1
 have HC1:=Aside0.mk hc1
 have HR2:=Aside0.mk hr2
 have HC2:=Aside0.mk hc2
 have HR3:=Aside0.mk hr3
 have HC3:=Aside0.mk hc3
 clear hr1 hc1 hr2 hc2 hr3 hc3
 have HB:=Aside0.mk (Below.refl w.heap.size w)
 have A4:=Aside0.mk (show l08_awake.f=some true from rfl)
 go_enter Try.func3,Try.ntmps3
 go_upto_region 2 with (first|(go_at_call 7;(with_reducible refine (l08_awake.calls true _ A4.out).mono ?_);rintro e w6 ⟨rfl,hb⟩;have n0_:=Aside0.mk (below_step HB.out hb);clear HB;have HB:=n0_;clear n0_;clear hb))
 by_cases d1:16<(o.length:Int)
 ·have d1b:decide (16<(o.length:Int))=true:=decide_eq_true d1
  have d1c:decide (16<o.length)=true:=decide_eq_true (by omega)
  clear d1
  go_wp2
  go_ret
  exact ⟨rfl,HB.out⟩
 have d1b:decide (16<(o.length:Int))=false:=decide_eq_false d1
 have d1c:decide (16<o.length)=false:=decide_eq_false (by omega)
 by_cases d2:16<(a.length:Int)
 ·have d2b:decide (16<(a.length:Int))=true:=decide_eq_true d2
  have d2c:decide (16<a.length)=true:=decide_eq_true (by omega)
  clear d1 d2
  go_wp2
  go_ret
  exact ⟨rfl,HB.out⟩
 have d2b:decide (16<(a.length:Int))=false:=decide_eq_false d2
 have d2c:decide (16<a.length)=false:=decide_eq_false (by omega)
 by_cases d3:16<(b.length:Int)
 ·have d3b:decide (16<(b.length:Int))=true:=decide_eq_true d3
  have d3c:decide (16<b.length)=true:=decide_eq_true (by omega)
  clear d1 d2 d3
  go_wp2
  go_ret
  exact ⟨rfl,HB.out⟩
 have d3b:decide (16<(b.length:Int))=false:=decide_eq_false d3
 have d3c:decide (16<b.length)=false:=decide_eq_false (by omega)
 have F1:=Aside0.mk (regions_some o a b (by omega) (by omega) (by omega))
 obtain ⟨k2,hk2⟩:=(docRegions_ev o a b (by omega) (by omega) (by omega)).rounds
 have F2:=Aside0.mk hk2
 obtain ⟨k3,hk3⟩:=(SameR_ev (regionsP o a b) (regions_len o a b (by omega) (by omega) (by omega))).rounds
 have F3:=Aside0.mk hk3
 clear d1 d2 d3 hk2 hk3
 generalize regionsP o a b=z at F1 F2 F3
 go_wp2_with (first
  | (go_at_call 9;(with_reducible refine (align_Regions.calls A1 c1 o A2 c2 a A3 c3 b z _ (Kd.C_below HR1.out HB.out) HC1.out (Kd.C_below HR2.out HB.out) HC2.out (Kd.C_below HR3.out HB.out) HC3.out F1.out).mono ?_);rintro e w7 ⟨v7,rfl,ho7,hb⟩;have n0_:=Aside0.mk (below_step HB.out hb);clear HB;have HB:=n0_;clear n0_;clear hb;obtain ⟨D7,u7,rfl⟩:=Kd.R_slice ho7;have HV:=Aside0.mk (Kd.R_reads' ho7).2;clear ho7)
  | (go_at_call 10;(with_reducible refine (r08_Regions.calls k2 A1 c1 o A2 c2 a A3 c3 b z _ (Kd.C_below HR1.out HB.out) HC1.out (Kd.C_below HR2.out HB.out) HC2.out (Kd.C_below HR3.out HB.out) HC3.out F2.out).mono ?_);rintro e w8 ⟨v8,rfl,ho8,hb⟩;have n0_:=Aside0.mk (below_step HB.out hb);clear HB;have HB:=n0_;clear n0_;obtain ⟨D8,u8,rfl⟩:=Kd.R_slice ho8;have HX:=Aside0.mk (Kd.R_reads' ho8).2;have n1_:=Aside0.mk (And.intro HV.out.1 (Kd.C_below HV.out.2 hb));clear HV;have HV:=n1_;clear n1_ ho8 hb)
  | (go_at_call 8;(with_reducible refine (r08_Same.calls k3 D7 u7 z D8 u8 z true _ HV.out.2 HV.out.1 HX.out.2 HX.out.1 F3.out).mono ?_);rintro e w9 ⟨rfl,hd⟩;have hb:=below_drawn hd;have n0_:=Aside0.mk (below_step HB.out hb);clear HB;have HB:=n0_;clear n0_;clear hb hd))
 go_ret
 exact ⟨rfl,HB.out⟩
end Go.Proofs.Ytnmphfelebkaiaa.Pr
-- shrunk
/-
Arguments that are slices of whatever kind, opened, with the sizes of all that is read behind them. General: no program in sight.
-/
namespace Go.Proofs.Ytnmphfelebkaiaa.Pr
open Go.RowKit Go.Proofs.YtnmphfelebkaiaaW.PrintWords Go.Proofs.YtnmphfelebkaiaaW.PrintLast Go.Proofs.YtnmphfelebkaiaaW.PrintMore
open Go.ChangeShapes Go.WideShapes Go.Deep
def Rz (P:Program) {α:Type} (d:Kd α) (S:α→Prop) (t:TypeId):Prop :=
 ∀ (H:Type) (enc:TypeId × Value→H) (w:World) (base:Nat) (spare:Nat→Bool) (held:Bool) (fuel:Nat) (cs:List Value) (x:DataW H × List MemPlace),
  DataW.trod enc P w base spare held fuel t cs=some x→(∀ n ∈ x.1.weights P t,n≤140737488351232)→∃ y,d.K w y cs∧S y
theorem Rz.int {P:Program} {t:TypeId} {k:IntKind} (hu:P.underlying t=some (.int k)):Rz P (Kd.int k) (fun n=>(Lit.int k n).wf=true) t:=fun H enc w base spare held fuel cs x h _=>by
 obtain ⟨n,rfl,_,hw⟩:=DataW.trod_int hu h
 exact ⟨n,rfl,hw⟩
theorem Rz.string {P:Program} {t:TypeId} (hu:P.underlying t=some .string):Rz P Kd.string (fun s=>s.size≤140737488351232) t:=fun H enc w base spare held fuel cs x h hz=>by
 obtain ⟨s,rfl,rfl,_⟩:=DataW.trod_string hu h
 refine ⟨s,rfl,?_⟩
 have:=hz s.data.toList.length (by simp [DataW.weights])
 simpa using this
theorem weights_mem_all {H:Type} {P:Program} {e:TypeId}:∀ {l:List (DataW H)} {d:DataW H},d ∈ l→∀ n ∈ d.weights P e,n ∈ DataW.weightsAll P e l
 | c :: l,d,hd,n,hn=>by
  simp only [DataW.weightsAll,List.mem_append]
  rcases List.mem_cons.1 hd with rfl|hd
  ·exact Or.inl hn
  ·exact Or.inr (weights_mem_all hd n hn)
theorem Rz.slice {P:Program} {α:Type} {d:Kd α} {S:α→Prop} {t e:TypeId} {B:Nat} (hu:P.underlying t=some (.slice e)) (hc:P.cellsOf e=d.sz) (hB:P.bytesOf e=B) (hd:Rz P d S e) :
  Rz P (Kd.slice e d) (fun xs=>xs.length * B≤140737488351232∧∀ y ∈ xs,S y) t:=fun H enc w base spare held fuel cs x h hz=>by
 rcases open_slice hu h with ⟨rfl,_⟩|⟨a,len,cap,m,n,D,Pl,rfl,hb,hl,hm,hmm,rfl,hx⟩
 ·exact ⟨[],⟨none,0,rfl,Nat.le_refl _,rfl,by simp,fun h0=>absurd h0 (Nat.lt_irrefl _)⟩,by simp,by simp⟩
 ·have hlm:len≤m:=by rw [hmm];split<;>omega
  have hw0:len * B≤140737488351232:=by
   have h1:=hz ((((List.range len).map D).length+((List.range (m - len)).map fun j=>D (len+j)).length) * P.bytesOf e) (by simp [DataW.weights,hu])
   rw [hB] at h1
   simp only [List.length_map,List.length_range] at h1
   exact Nat.le_trans (Nat.mul_le_mul_right _ (Nat.le_add_right _ _)) h1
  have hw1:∀ i,i<len→∀ q ∈ (D i).weights P e,q≤140737488351232:=fun i hi q hq=>by
   refine hz q ?_
   simp only [DataW.weights,hu,List.mem_cons,List.mem_append]
   exact Or.inr (Or.inl (weights_mem_all (List.mem_map.2 ⟨i,List.mem_range.2 hi,rfl⟩) q hq))
  have key:∀ k,k≤len→∃ xs:List α,xs.length=k∧(∀ y ∈ xs,S y)∧∀ j p,xs[j]?=some p→∃ c,c.length=d.sz∧d.K w p c∧∀ i u,c[i]?=some u→w.cell? (a.add (j * d.sz+i))=some u:=by
   intro k
   induction k with
   | zero=>exact fun _=>⟨[],rfl,by simp,fun j p hj=>by simp at hj⟩
   | succ k ih =>
    intro hk
    obtain ⟨xs,hxl,hS,hxs⟩:=ih (by omega)
    obtain ⟨cs',h1,h2⟩:=hx k (by omega)
    obtain ⟨y,hy,hSy⟩:=hd H enc w base spare held n cs' _ h2 (hw1 k (by omega))
    obtain ⟨_,hlen,hcell⟩:=World.cells?_some h1
    refine ⟨xs++[y],by simp [hxl],fun z hz=>?_,fun j p hj=>?_⟩
    ·rcases List.mem_append.1 hz with hz|hz
     ·exact hS z hz
     ·rw [List.mem_singleton.1 hz];exact hSy
    by_cases hjk:j<k
    ·rw [List.getElem?_append_left (by omega)] at hj
     exact hxs j p hj
    ·have hj':j=k:=by
      have:j<(xs++[y]).length:=by
       rcases Nat.lt_or_ge j (xs++[y]).length with h|h
       ·exact h
       ·rw [List.getElem?_eq_none h] at hj;cases hj
      simp [hxl] at this;omega
     subst hj'
     rw [List.getElem?_append_right (by omega),hxl,Nat.sub_self] at hj
     obtain rfl:=Option.some.inj hj
     refine ⟨cs',by rw [hlen,hc],hy,fun i u hi=>?_⟩
     have hlt:i<cs'.length:=by
      rcases Nat.lt_or_ge i cs'.length with h|h
      ·exact h
      ·rw [List.getElem?_eq_none h] at hi;cases hi
     rw [← hc,← Deep.add_add,hcell i (by omega),hi]
  obtain ⟨xs,rfl,hS,hxs⟩:=key len (Nat.le_refl _)
  exact ⟨xs,⟨some a,cap,rfl,hl,rfl,by unfold maxLen at hm;omega,fun _=>⟨a,rfl,hxs⟩⟩,hw0,hS⟩
inductive RzF (P:Program):{α:Type}→Kd α→(α→Prop)→Nat→List Field→Prop
 | last {α:Type} {d:Kd α} {S:α→Prop} {f:Field} {off:Nat}:f.offset=off→P.cellsOf f.type=d.sz→Rz P d S f.type→RzF P d S off [f]
 | cons {α β:Type} {a:Kd α} {b:Kd β} {S:α→Prop} {U:β→Prop} {f:Field} {fs:List Field} {off:Nat}:f.offset=off→P.cellsOf f.type=a.sz→Rz P a S f.type→RzF P b U (off+a.sz) fs→RzF P (Kd.pair a b) (fun x=>S x.1∧U x.2) off (f :: fs)
theorem RzF.read {P:Program} {H:Type} {enc:TypeId × Value→H} {w:World} {base:Nat} {spare:Nat→Bool} {held:Bool} {cs:List Value} {α:Type} {d:Kd α} {S:α→Prop} {off:Nat} {fs:List Field} (h:RzF P d S off fs) :
  (∀ f ∈ fs,∃ n x,DataW.trod enc P w base spare held n f.type ((cs.drop f.offset).take (P.cellsOf f.type))=some x∧∀ q ∈ x.1.weights P f.type,q≤140737488351232)→∃ y,d.K w y ((cs.drop off).take d.sz)∧S y:=by
 induction h with
 | last ho hc hr =>
  intro hf
  obtain ⟨n,x,hx,hw⟩:=hf _ (List.mem_singleton.2 rfl)
  rw [ho,hc] at hx
  exact hr H enc w base spare held n _ x hx hw
 | @cons α β a b S U f fs off ho hc hr _ ih =>
  intro hf
  obtain ⟨n,x,hx,hw⟩:=hf _ List.mem_cons_self
  rw [ho,hc] at hx
  obtain ⟨y0,h0,s0⟩:=hr H enc w base spare held n _ x hx hw
  obtain ⟨y1,h1,s1⟩:=ih (fun g hg=>hf g (List.mem_cons_of_mem _ hg))
  refine ⟨(y0,y1),⟨_,_,?_,h0,h1⟩,s0,s1⟩
  show List.take (a.sz+b.sz) _=_
  rw [List.take_add,List.drop_drop]
theorem Rz.struct {P:Program} {α:Type} {d:Kd α} {S:α→Prop} {t:TypeId} {fs:Array Field} (hu:P.underlying t=some (.struct fs)) (hc:P.cellsOf t=d.sz) (hf:RzF P d S 0 fs.toList):Rz P d S t:=fun H enc w base spare held fuel cs x h hz=>by
 obtain ⟨xs,n,_,rfl,hl,hlen,hx⟩:=DataW.trod_struct hu h
 have h2:=hf.read (enc:=enc) (w:=w) (base:=base) (spare:=spare) (held:=held) (cs:=cs) (fun f hm=>by
  obtain ⟨i,hi,he⟩:=List.mem_iff_getElem.1 hm
  have h3:=hx i f (by rw [← he];simp)
  have hi':i<xs.length:=by rw [hlen];simpa using hi
  rw [List.getElem?_eq_getElem hi'] at h3
  refine ⟨n,_,h3,fun q hq=>hz q ?_⟩
  simp only [DataW.weights,hu]
  refine DataW.weights_mem_each (j:=i) (t:=f.type) (d:=xs[i].1) ?_ ?_ q hq
  ·rw [List.getElem?_map,List.getElem?_eq_getElem hi,he];rfl
  ·rw [List.getElem?_map,List.getElem?_eq_getElem hi'];rfl)
 rw [List.drop_zero,List.take_of_length_le (by omega)] at h2
 exact h2
theorem Rz.iso {P:Program} {α β:Type} {d:Kd α} {S:α→Prop} {f:β→α} {t:TypeId} (h:Rz P d S t) (g:∀ y,∃ x,f x=y):Rz P (Kd.iso d f) (fun x=>S (f x)) t:=fun H enc w base spare held fuel cs x hx hz=>by
 obtain ⟨y,hy,hs⟩:=h H enc w base spare held fuel cs x hx hz
 obtain ⟨z,rfl⟩:=g y
 exact ⟨z,hy,hs⟩
theorem Rz.mono {P:Program} {α:Type} {d:Kd α} {S S':α→Prop} {t:TypeId} (h:Rz P d S t) (g:∀ x,S x→S' x):Rz P d S' t:=fun H enc w base spare held fuel cs x hx hz=>by
 obtain ⟨y,hy,hs⟩:=h H enc w base spare held fuel cs x hx hz
 exact ⟨y,hy,g y hs⟩
theorem open_rowz {P:Program} {α:Type} {d:Kd α} {S:α→Prop} {t e:TypeId} {B:Nat} {H:Type} {enc:TypeId × Value→H} {w:World} {r:Reach} {b0 base:Nat} {spare:Nat→Bool} {held:Bool} {v:Value} {x:DataW H} {ps:List MemPlace} {ts:List TypeId} {ds:List (DataW H)} {j:Nat}
  (hsz:(DataW.weightsEach P ts ds).all (·≤reachBytes)=true) (ht:ts[j]?=some t) (hdj:ds[j]?=some x)
  (hu:P.underlying t=some (.slice e)) (hc:P.cellsOf e=d.sz) (hB:P.bytesOf e=B) (hd:Rz P d S e) (hval:Value.okWide P w r b0 t v) (h:DataW.Trod enc P w base spare held t v x ps) :
  ∃ (A:Option Addr) (c:Nat) (xs:List α),v=.slice A xs.length c∧xs.length≤c∧d.C w A xs.length xs∧xs.length * B≤140737488351232∧∀ y ∈ xs,S y:=by
 obtain ⟨a,len,cap,rfl⟩:=okWide_slice hu hval
 obtain ⟨fuel,hf⟩:=h
 obtain ⟨xs,⟨A,c,hcs,hl,hC⟩,hb,hS⟩:=Rz.slice hu hc hB hd H enc w base spare held fuel _ _ hf (fun n hn=>by
  have:=List.all_eq_true.1 hsz _ (DataW.weights_mem_each ht hdj n hn)
  have h2:n≤reachBytes:=by simpa using this
  exact h2)
 simp [Value.cells] at hcs
 obtain ⟨rfl,rfl,rfl⟩:=hcs
 exact ⟨_,_,xs,rfl,hl,hC,hb,hS⟩
end Go.Proofs.Ytnmphfelebkaiaa.Pr
-- shrunk
/-
The kinds of the lower layers' arguments, with sizes: lists of texts, edits.
-/
namespace Go.Proofs.Ytnmphfelebkaiaa.Pr
open Go.RowKit Go.Proofs.YtnmphfelebkaiaaW.PrintWords Go.Proofs.YtnmphfelebkaiaaW.PrintLast Go.Proofs.YtnmphfelebkaiaaW.PrintMore
theorem rz_string:Rz Try.prog Kd.string (fun s=>s.size≤140737488351232) 9:=Rz.string (by kernel_rfl)
end Go.Proofs.Ytnmphfelebkaiaa.Pr
-- shrunk
