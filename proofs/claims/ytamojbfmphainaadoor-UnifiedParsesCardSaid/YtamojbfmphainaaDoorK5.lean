/-
Several plain texts in one.
-/
import Derived.Test.YtamojbfmphainaaDoorK4
import Derived.Test.YtamojbfmphainaaDoorK2
import Derived.Test.YtamojbfmphainaaDoorD14
import Derived.Outline
import Derived.Test.YtamojbfmphainaaDoorK3
import Derived.Test.YtamojbfmphainaaDoorK1
import Derived.Deep.Strs
import Derived.SizedLaws
import Derived.ChangeOld
import Derived.Carry
import Derived.Test.YtamojbfmphainaaDoorWWords
import Derived.Test.YtamojbfmphainaaDoorWMore
import Derived.Test.YtamojbfmphainaaDoorWLast
import Derived.KernelRfl
import Derived.Test.YtamojbfmphainaaDoorK0
set_option linter.unusedVariables false
set_option linter.unusedSimpArgs false
/-
The document's Parse answers what the program's does.
-/
namespace Go.Proofs.YtamojbfmphainaaDoor.Pr
open Go.RowKit Go.Proofs.YtamojbfmphainaaDoorW.PrintWords Go.Proofs.YtamojbfmphainaaDoorW.PrintLast Go.Proofs.YtamojbfmphainaaDoorW.PrintMore
def FitsP (y:Hk) (t:ByteArray):Prop:=closedL t.data.toList=true∧sign (bt t 0)∧¬ (bt t 0=45∧wentB y.f4=true)∧(manyL 45 (y.f4++[t]):Int)≤y.f1∧(manyL 43 (y.f4++[t]):Int)≤y.f3
instance (y:Hk) (t:ByteArray):Decidable (FitsP y t):=by unfold FitsP sign;infer_instance
theorem fits_j1 (L:List ByteArray) (f0 f1 f2 f3:Int) (M:List ByteArray) (z:Bool) (hn:M.length≤1099511627776) :
  Ev (fun k=>r06_fits.j1 k M z f0 f1 f2 f3 L) (decide (z=false∧(manyL 45 M:Int)≤f1∧(manyL 43 M:Int)≤f3)):=by
 refine Ev.step (fun _=>r06_fits.j1.eq_2 ..) ?_
 cases z with
 | true=>simp only [if_pos rfl];rw [decide_eq_false (fun h=>Bool.noConfusion h.1)];exact Ev.now _
 | false =>
  simp only [Bool.false_eq_true,if_false]
  refine Ev.bind (Many_ev M 45 hn) ?_
  by_cases h:(manyL 45 M:Int)≤f1
  ·simp only [if_pos h]
   refine Ev.bind (Many_ev M 43 hn) ?_
   simp only [h,true_and,eq_self]
   exact Ev.now _
  ·simp only [if_neg h]
   rw [decide_eq_false (fun h2=>h h2.2.1)]
   exact Ev.now _
theorem fits_j0 (y:Hk) (t:ByteArray) (hn:y.f4.length≤1000000000) (ht:0<t.size) (hg:∀ u ∈ y.f4,0<u.size) (z:Bool) :
  Ev (fun k=>r06_fits.j0 k t z y.f0 y.f1 y.f2 y.f3 y.f4) (decide (z=false∧¬ (bt t 0=45∧wentB y.f4=true)∧(manyL 45 (y.f4++[t]):Int)≤y.f1∧(manyL 43 (y.f4++[t]):Int)≤y.f3)):=by
 refine Ev.step (fun _=>r06_fits.j0.eq_2 ..) ?_
 cases z with
 | true=>simp only [if_pos rfl];rw [decide_eq_false (fun h=>Bool.noConfusion h.1)];exact Ev.now _
 | false =>
  simp only [Bool.false_eq_true,if_false,Option.bind_some,List.nil_append,List.length_nil,Nat.zero_add,if_pos (show y.f4.length<8796093022208 by omega)]
  have hl:(y.f4++[t]).length=y.f4.length+1:=by simp
  have J:=fun z=>fits_j1 y.f4 y.f0 y.f1 y.f2 y.f3 (y.f4++[t]) z (by rw [hl];omega)
  have e0:∀ z2:Bool,(z2=false ↔ ¬ (bt t 0=45∧wentB y.f4=true))→decide (z2=false∧(manyL 45 (y.f4++[t]):Int)≤y.f1∧(manyL 43 (y.f4++[t]):Int)≤y.f3)=decide (True∧¬ (bt t 0=45∧wentB y.f4=true)∧(manyL 45 (y.f4++[t]):Int)≤y.f1∧(manyL 43 (y.f4++[t]):Int)≤y.f3):=by
   intro z2 h;simp only [h,true_and]
  by_cases hL:y.f4=[]
  ·simp only [if_neg (show ¬ ((y.f4++[t]).length:Int) > 1 by rw [hl,hL];decide)]
   have:=J false
   rw [e0 false (by rw [hL];simp [wentB])] at this
   exact this
  ·have hpos:=List.length_pos_iff.2 hL
   simp only [if_pos (show ((y.f4++[t]).length:Int) > 1 by rw [hl];omega),if_pos (show 0<(t.size:Int) by omega)]
   by_cases h45:bt t 0=45
   ·obtain ⟨d,u,hd⟩:∃ d u,y.f4=d++[u]:=⟨y.f4.dropLast,y.f4.getLast hL,(List.dropLast_concat_getLast hL).symm⟩
    have ew:wrap64 (((y.f4++[t]).length:Int) - 2)=(d.length:Int):=by
     rw [w_in (by omega) (by omega),hl,hd,List.length_append,List.length_singleton];omega
    have hdl:d.length<(y.f4++[t]).length:=by rw [hl,hd,List.length_append];omega
    have eu:rdOf ByteArray.empty (y.f4++[t]) (d.length:Int)=u:=by
     rw [rdS_at hdl]
     simp only [hd,List.append_assoc]
     rw [List.getElem_append_right (Nat.le_refl _)]
     simp
    have hu:0<u.size:=hg u (by rw [hd];simp)
    simp only [if_pos h45,ew,if_pos (show 0≤(d.length:Int) by omega),if_pos (show (d.length:Int)<((y.f4++[t]).length:Int) by omega),eu,if_pos (show 0<(u.size:Int) by omega)]
    have:=J (bt u 0 == 43)
    rw [e0 (bt u 0 == 43) (by rw [hd,went_snoc];simp [h45])] at this
    exact this
   ·simp only [if_neg h45]
    have:=J false
    rw [e0 false (by simp [h45])] at this
    exact this
theorem fits_ev (y:Hk) (t:ByteArray) (hn:y.f4.length≤1000000000) (ht:0<t.size) (hs:t.size≤1048576) (hg:∀ u ∈ y.f4,0<u.size) :
  Ev (fun k=>r06_fits.f k y.f0 y.f1 y.f2 y.f3 y.f4 t) (decide (FitsP y t)):=by
 unfold r06_fits.f
 have J:=fits_j0 y t hn ht hg
 rw [RClosed_some t (by omega)]
 simp only [Option.bind_some]
 by_cases hc:closedL t.data.toList=true
 ·simp only [if_pos hc,if_pos (show 0<(t.size:Int) by omega)]
  have key:∀ z:Bool,(z=false ↔ sign (bt t 0))→Ev (fun k=>r06_fits.j0 k t z y.f0 y.f1 y.f2 y.f3 y.f4) (decide (FitsP y t)):=by
   intro z hz
   have h:=J z
   rwa [show decide (z=false∧¬ (bt t 0=45∧wentB y.f4=true)∧(manyL 45 (y.f4++[t]):Int)≤y.f1∧(manyL 43 (y.f4++[t]):Int)≤y.f3)=decide (FitsP y t) from decide_eq_decide.2 (by unfold FitsP;rw [hz];simp only [hc,true_and])] at h
  by_cases h32:bt t 0=32
  ·simp only [if_pos h32];exact key false ⟨fun _=>.inl h32,fun _=>rfl⟩
  ·simp only [if_neg h32]
   by_cases h43:bt t 0=43
   ·simp only [if_pos h43];exact key false ⟨fun _=>.inr (.inl h43),fun _=>rfl⟩
   ·simp only [if_neg h43]
    exact key _ (by unfold sign;simp [h32,h43])
 ·simp only [if_neg hc]
  have h:=J true
  rwa [show decide (true=false∧¬ (bt t 0=45∧wentB y.f4=true)∧(manyL 45 (y.f4++[t]):Int)≤y.f1∧(manyL 43 (y.f4++[t]):Int)≤y.f3)=decide (FitsP y t) from by rw [decide_eq_false (fun h=>Bool.noConfusion h.1),decide_eq_false (fun h=>hc h.1)]] at h
theorem if_cg {α:Type} {p q:Prop} [Decidable p] [Decidable q] {a b:α} (h:p ↔ q):(if p then a else b)=(if q then a else b):=by
 by_cases hp:p
 ·rw [if_pos hp,if_pos (h.1 hp)]
 ·rw [if_neg hp,if_neg (fun x=>hp (h.2 x))]
theorem step_fits (out:List Hk) (y:Hk) (bare:Bool) (t:ByteArray) (h0:¬ (t=openB∧bare=false)) (ht:0<t.size) (hz:¬ (y.f1 - (manyL 45 y.f4:Int)=0∧y.f3 - (manyL 43 y.f4:Int)=0)) :
  stepP ⟨out++[y],y.f1 - (manyL 45 y.f4:Int),y.f3 - (manyL 43 y.f4:Int),bare⟩ t=if FitsP y t then some ⟨out++[{ y with f4:=y.f4++[t] }],y.f1 - (manyL 45 (y.f4++[t]):Int),y.f3 - (manyL 43 (y.f4++[t]):Int),false⟩ else none:=by
 have hadd:addL (out++[y]) ((out++[y]).length - 1) t=out++[{ y with f4:=y.f4++[t] }]:=by
  unfold addL;rw [last_at];exact set_at _ _ _
 unfold stepP
 simp only
 rw [if_neg h0,if_neg hz,last_at]
 simp only [hadd]
 have m45:=manyL_snoc 45 y.f4 t
 have m43:=manyL_snoc 43 y.f4 t
 by_cases hc:closedL t.data.toList=true
 ·by_cases h32:bt t 0=32
  ·have e45:manyL 45 (y.f4++[t])=manyL 45 y.f4+1:=by rw [m45,if_pos ⟨ht,.inl h32⟩]
   have e43:manyL 43 (y.f4++[t])=manyL 43 y.f4+1:=by rw [m43,if_pos ⟨ht,.inl h32⟩]
   have es:stepL (wentB y.f4) (bt t 0) (y.f1 - (manyL 45 y.f4:Int)) (y.f3 - (manyL 43 y.f4:Int))=some (y.f1 - (manyL 45 (y.f4++[t]):Int),y.f3 - (manyL 43 (y.f4++[t]):Int)):=by
    unfold stepL;rw [if_pos h32,e45,e43];congr 2<;>omega
   unfold lineR
   rw [es]
   simp only [hc,Bool.true_and,Bool.and_eq_true,decide_eq_true_eq,Option.map_some]
   refine if_cg ?_
   unfold FitsP
   constructor
   ·intro h;exact ⟨hc,.inl h32,fun h2=>by omega,by omega,by omega⟩
   ·intro h;exact ⟨by have:=h.2.2.2.1;omega,by have:=h.2.2.2.2;omega⟩
  ·by_cases h45:bt t 0=45
   ·have e45:manyL 45 (y.f4++[t])=manyL 45 y.f4+1:=by rw [m45,if_pos ⟨ht,.inr h45⟩]
    have e43:manyL 43 (y.f4++[t])=manyL 43 y.f4:=by rw [m43,if_neg (by rintro ⟨_,h|h⟩<;>omega),Nat.add_zero]
    by_cases hw:wentB y.f4=true
    ·have es:stepL (wentB y.f4) (bt t 0) (y.f1 - (manyL 45 y.f4:Int)) (y.f3 - (manyL 43 y.f4:Int))=none:=by
      unfold stepL;rw [if_neg h32,if_pos h45,if_pos hw]
     unfold lineR
     rw [es,if_neg (fun h:FitsP y t=>h.2.2.1 ⟨h45,hw⟩)]
     rfl
    ·have es:stepL (wentB y.f4) (bt t 0) (y.f1 - (manyL 45 y.f4:Int)) (y.f3 - (manyL 43 y.f4:Int))=some (y.f1 - (manyL 45 (y.f4++[t]):Int),y.f3 - (manyL 43 (y.f4++[t]):Int)):=by
      unfold stepL;rw [if_neg h32,if_pos h45,if_neg hw,e45,e43];congr 2;omega
     unfold lineR
     rw [es]
     simp only [hc,Bool.true_and,Bool.and_eq_true,decide_eq_true_eq,Option.map_some]
     refine if_cg ?_
     unfold FitsP
     constructor
     ·intro h;exact ⟨hc,.inr (.inr h45),fun h2=>hw h2.2,by omega,by omega⟩
     ·intro h;exact ⟨by have:=h.2.2.2.1;omega,by have:=h.2.2.2.2;omega⟩
   ·by_cases h43:bt t 0=43
    ·have e45:manyL 45 (y.f4++[t])=manyL 45 y.f4:=by rw [m45,if_neg (by rintro ⟨_,h|h⟩<;>omega),Nat.add_zero]
     have e43:manyL 43 (y.f4++[t])=manyL 43 y.f4+1:=by rw [m43,if_pos ⟨ht,.inr h43⟩]
     have es:stepL (wentB y.f4) (bt t 0) (y.f1 - (manyL 45 y.f4:Int)) (y.f3 - (manyL 43 y.f4:Int))=some (y.f1 - (manyL 45 (y.f4++[t]):Int),y.f3 - (manyL 43 (y.f4++[t]):Int)):=by
      unfold stepL;rw [if_neg h32,if_neg h45,if_pos h43,e45,e43];congr 2;omega
     unfold lineR
     rw [es]
     simp only [hc,Bool.true_and,Bool.and_eq_true,decide_eq_true_eq,Option.map_some]
     refine if_cg ?_
     unfold FitsP
     constructor
     ·intro h;exact ⟨hc,.inr (.inl h43),fun h2=>h45 h2.1,by omega,by omega⟩
     ·intro h;exact ⟨by have:=h.2.2.2.1;omega,by have:=h.2.2.2.2;omega⟩
    ·have es:stepL (wentB y.f4) (bt t 0) (y.f1 - (manyL 45 y.f4:Int)) (y.f3 - (manyL 43 y.f4:Int))=none:=by
      unfold stepL;rw [if_neg h32,if_neg h45,if_neg h43]
     unfold lineR
     rw [es,if_neg (fun h:FitsP y t=>by rcases h.2.1 with h|h|h<;>omega)]
     rfl
 ·rw [if_neg (fun h:FitsP y t=>hc h.1)]
  have:lineR (wentB y.f4) (closedL t.data.toList) (bt t 0) (y.f1 - (manyL 45 y.f4:Int)) (y.f3 - (manyL 43 y.f4:Int))=false:=by
   unfold lineR
   rw [Bool.eq_false_iff.2 hc]
   split<;>simp
  rw [this]
  rfl
end Go.Proofs.YtamojbfmphainaaDoor.Pr
-- shrunk
/-
The document's Parse answers what the program's does: the loops.
-/
namespace Go.Proofs.YtamojbfmphainaaDoor.Pr
open Go.RowKit Go.Proofs.YtamojbfmphainaaDoorW.PrintWords Go.Proofs.YtamojbfmphainaaDoorW.PrintLast Go.Proofs.YtamojbfmphainaaDoorW.PrintMore
theorem parseL_none {st:PS} {t:ByteArray} (r:List ByteArray) (i:Nat) (h:stepP st t=none):parseL (t :: r) i st=([],(i:Int)+1,3):=by rw [parseL,h]
theorem chop_ext {t:ByteArray} (h:closedL t.data.toList=true) (h0:0<t.size):t.extract 0 (t.size - 1)=chopB t:=by
 have hl:=last_get t h0
 have h10:t.data.toList.getLast?=some 10:=by
  unfold closedL at h
  rw [Bool.or_eq_true,decide_eq_true_eq,beq_iff_eq] at h
  rcases h with h|h
  ·have:=congrArg List.length h
   exact absurd (show t.size=0 from this) (by omega)
  ·exact h
 have hne:t.data.toList≠[]:=fun e=>by rw [e] at h10;cases h10
 have hd:t.data.toList=t.data.toList.dropLast++[10]:=by
  have h1:=List.dropLast_concat_getLast hne
  rw [List.getLast?_eq_some_getLast hne] at h10
  rw [Option.some.inj h10] at h1
  exact h1.symm
 have hs:=(suf_at t.data.toList.dropLast [10]).2
 rw [← hd] at hs
 unfold chopB
 rw [hs]
 apply ByteArray.ext
 apply Array.toList_inj.1
 rw [ByteArray.data_extract,Array.toList_extract,List.extract_eq_take_drop,List.drop_zero,Nat.sub_zero,List.dropLast_eq_take]
 rfl
structure Cnd (all:List ByteArray) (i:Nat) (out:List Hk) (y:Hk) (bare:Bool):Prop where
 ho:out.length+1≤i
 hL:y.f4.length≤i
 a:(manyL 45 y.f4:Int)≤y.f1
 b:(manyL 43 y.f4:Int)≤y.f3
 good:∀ u ∈ y.f4,0<u.size
 hb:bare=false→all[i]?≠some openB
theorem chop_zero {t:ByteArray} (h:closedL t.data.toList=true) (h0:0<t.size) (h1:0<(chopB t).size):bt (chopB t) 0=bt t 0:=by
 have e:=chop_ext h h0
 have g1:=bt_get _ 0 h1
 have g2:=bt_get t 0 h0
 simp only [Int.natCast_zero] at g1 g2
 rw [g1,g2]
 congr 2
 have h2:(chopB t).data.toList=t.data.toList.dropLast:=by
  rw [← e,ByteArray.data_extract,Array.toList_extract,List.extract_eq_take_drop,List.drop_zero,Nat.sub_zero,List.dropLast_eq_take];rfl
 have h3:(chopB t).data.toList[0]?=t.data.toList[0]?:=by
  rw [h2,List.getElem?_dropLast,if_pos]
  have:t.data.toList.dropLast.length=(chopB t).size:=by rw [← h2];rfl
  rw [List.length_dropLast] at this;omega
 rw [List.getElem?_eq_getElem (show 0<(chopB t).data.toList.length from h1),List.getElem?_eq_getElem (show 0<t.data.toList.length from h0)] at h3
 exact Option.some.inj h3
theorem mark_f:r06_mark.f=some openB:=rfl
theorem many_chop (L:List ByteArray) {t:ByteArray} (hc:closedL t.data.toList=true) (h0:0<t.size) (h1:0<(chopB t).size) (z:Int):manyL z (L++[chopB t])=manyL z (L++[t]):=by
 rw [manyL_snoc,manyL_snoc,chop_zero hc h0 h1]
 congr 1
 exact if_cg ⟨fun h=>⟨h0,h.2⟩,fun h=>⟨h1,h.2⟩⟩
theorem chop_pos {t:ByteArray} (h0:0<t.size) (hs:sign (bt t 0)):0<(chopB t).size:=(chopB_good (B:=t.size) ⟨h0,Nat.le_refl _,hs⟩).1
theorem Cnd.next {all:List ByteArray} {i:Nat} {out:List Hk} {y:Hk} {bare:Bool} (c:Cnd all i out y bare) {t:ByteArray} (hf:FitsP y t) (h0:0<t.size) (hne:all[i+1]?≠some openB):Cnd all (i+1) out { y with f4:=y.f4++[t] } false:=by
 obtain ⟨ho,hL,a,b,good,hb⟩:=c
 refine ⟨by omega,?_,hf.2.2.2.1,hf.2.2.2.2,?_,fun _=>hne⟩
 ·show (y.f4++[t]).length≤_
  rw [List.length_append,List.length_singleton];omega
 ·intro u hu
  rcases List.mem_append.1 hu with hu|hu
  ·exact good u hu
  ·obtain rfl:=List.mem_singleton.1 hu;exact h0
theorem Cnd.mark {all:List ByteArray} {i:Nat} {out:List Hk} {y:Hk} {bare:Bool} (c:Cnd all i out y bare) {t:ByteArray} (hf:FitsP y t) (h0:0<t.size):Cnd all (i+2) out { y with f4:=y.f4++[chopB t] } true:=by
 obtain ⟨ho,hL,a,b,good,hb⟩:=c
 have h1:=chop_pos h0 hf.2.1
 refine ⟨by omega,?_,?_,?_,?_,fun h=>Bool.noConfusion h⟩
 ·show (y.f4++[chopB t]).length≤_
  rw [List.length_append,List.length_singleton];omega
 ·show ((manyL 45 (y.f4++[chopB t]):Nat):Int)≤y.f1
  rw [many_chop y.f4 hf.1 h0 h1];exact hf.2.2.2.1
 ·show ((manyL 43 (y.f4++[chopB t]):Nat):Int)≤y.f3
  rw [many_chop y.f4 hf.1 h0 h1];exact hf.2.2.2.2
 ·intro u hu
  rcases List.mem_append.1 hu with hu|hu
  ·exact good u hu
  ·obtain rfl:=List.mem_singleton.1 hu;exact h1
theorem set_lastB (L:List ByteArray) (t u:ByteArray):(L++[t]).set L.length u=L++[u]:=by
 rw [List.set_append_right _ _ (Nat.le_refl _),Nat.sub_self];rfl
theorem rd_last (L:List ByteArray) (t:ByteArray):rdOf ByteArray.empty (L++[t]) (L.length:Int)=t:=by
 rw [rdS_at (show L.length<(L++[t]).length by rw [List.length_append,List.length_singleton];omega),List.getElem_append_right (Nat.le_refl _)]
 simp
theorem step_mark (out:List Hk) (y:Hk) (a b:Int) (t:ByteArray):stepP ⟨out++[{ y with f4:=y.f4++[t] }],a,b,false⟩ openB=some ⟨out++[{ y with f4:=y.f4++[chopB t] }],a,b,true⟩:=by
 have hch:chopL (out++[{ y with f4:=y.f4++[t] }])=out++[{ y with f4:=y.f4++[chopB t] }]:=by
  unfold chopL;rw [last_at];simp only [set_at]
  unfold chopH
  have e:(y.f4++[t]).length - 1=y.f4.length:=by rw [List.length_append,List.length_singleton,Nat.add_sub_cancel]
  simp only [e,rd_last,set_lastB]
 unfold stepP;simp only [and_self,if_true,hch]
theorem doc_next (k:Nat) (all:List ByteArray) (out:List Hk) (i:Nat) (y:Hk) (t:ByteArray) (hn:all.length≤1000000) (hi:i<all.length) (hL:y.f4.length≤i) (h0:0<t.size) (hs:t.size≤1048576) (hc:closedL t.data.toList=true) :
  (if (((i+1:Nat):Int))<(all.length:Int) then (if 0≤(((i+1:Nat):Int)) then ((r06_mark.f).bind fun t260=>(if (rdOf ByteArray.empty all (((i+1:Nat):Int))).toList=t260.toList then (if 0≤(wrap64 (((y.f4++[t]).length:Int) - 1)) then (if (wrap64 (((y.f4++[t]).length:Int) - 1))<((y.f4++[t]).length:Int) then (if 0≤(wrap64 (((rdOf ByteArray.empty (y.f4++[t]) (wrap64 (((y.f4++[t]).length:Int) - 1))).size:Int) - 1)) then (if (wrap64 (((rdOf ByteArray.empty (y.f4++[t]) (wrap64 (((y.f4++[t]).length:Int) - 1))).size:Int) - 1))≤((rdOf ByteArray.empty (y.f4++[t]) (wrap64 (((y.f4++[t]).length:Int) - 1))).size:Int) then (r06_Parse.l1 k all out (wrap64 ((((i+1:Nat):Int))+1)) y.f0 y.f1 y.f2 y.f3 ((y.f4++[t]).set ((wrap64 (((y.f4++[t]).length:Int) - 1)):Int).toNat ((rdOf ByteArray.empty (y.f4++[t]) (wrap64 (((y.f4++[t]).length:Int) - 1))).extract 0 ((wrap64 (((rdOf ByteArray.empty (y.f4++[t]) (wrap64 (((y.f4++[t]).length:Int) - 1))).size:Int) - 1)):Int).toNat))) else (none)) else (none)) else (none)) else (none)) else (r06_Parse.l1 k all out (((i+1:Nat):Int)) y.f0 y.f1 y.f2 y.f3 (y.f4++[t])))) else (none)) else (r06_Parse.l1 k all out (((i+1:Nat):Int)) y.f0 y.f1 y.f2 y.f3 (y.f4++[t])))
  = if all[i+1]?=some openB then r06_Parse.l1 k all out ((i+2:Nat):Int) y.f0 y.f1 y.f2 y.f3 (y.f4++[chopB t]) else r06_Parse.l1 k all out ((i+1:Nat):Int) y.f0 y.f1 y.f2 y.f3 (y.f4++[t]):=by
 by_cases h1:i+1<all.length
 ·have hg1:all[i+1]?=some all[i+1]:=List.getElem?_eq_getElem h1
  rw [if_pos (by omega),if_pos (by omega),mark_f,Option.bind_some,rdS_at h1,hg1]
  generalize all[i+1]=m
  by_cases hm:m=openB
  ·have e1:wrap64 (((y.f4++[t]).length:Int) - 1)=(y.f4.length:Int):=by
    rw [List.length_append,List.length_singleton,w_in (by omega) (by omega)];omega
   have e3:wrap64 ((t.size:Int) - 1)=((t.size - 1:Nat):Int):=by rw [w_in (by omega) (by omega)];omega
   have e4:wrap64 (((i+1:Nat):Int)+1)=((i+2:Nat):Int):=by rw [w_in (by omega) (by omega)];omega
   have e6:(y.f4.length:Int)<((y.f4++[t]).length:Int):=by rw [List.length_append,List.length_singleton];omega
   have e7:((t.size - 1:Nat):Int)≤(t.size:Int):=by omega
   subst hm
   rw [if_pos rfl,if_pos rfl,e1,rd_last,e3,e4,Int.toNat_natCast,Int.toNat_natCast,chop_ext hc h0,set_lastB,if_pos (Int.natCast_nonneg _),if_pos e6,if_pos (Int.natCast_nonneg _),if_pos e7]
  ·rw [if_neg (fun h=>hm ((str_iff _ _).1 h)),if_neg (fun h=>hm (Option.some.inj h))]
 ·rw [if_neg (by omega),List.getElem?_eq_none (by omega),if_neg (by simp)]
set_option maxHeartbeats 4000000 in
theorem parse_in (all:List ByteArray) (hall:∀ t ∈ all,0<t.size∧t.size≤1048576) (hn:all.length≤1000000):∀ (d i:Nat),all.length - i=d→i≤all.length →
  (∀ (out:List Hk) (bare:Bool),out.length≤i→(bare=false→all[i]?≠some openB)→Ev (fun k=>r06_Parse.l0 k all out (i:Int)) (parseL (all.drop i) i ⟨out,0,0,bare⟩)) ∧
  (∀ (out:List Hk) (y:Hk) (bare:Bool),Cnd all i out y bare→Ev (fun k=>r06_Parse.l1 k all out (i:Int) y.f0 y.f1 y.f2 y.f3 y.f4) (parseL (all.drop i) i ⟨out++[y],y.f1 - (manyL 45 y.f4:Int),y.f3 - (manyL 43 y.f4:Int),bare⟩)):=by
 intro d
 induction d using Nat.strongRecOn with
 | ind d ih =>
  intro i hd hi
  have wi:wrap64 ((i:Int)+1)=((i+1:Nat):Int):=by rw [w_in (by omega) (by omega)];rfl
  have P0:∀ (out:List Hk) (bare:Bool),out.length≤i→(bare=false→all[i]?≠some openB)→Ev (fun k=>r06_Parse.l0 k all out (i:Int)) (parseL (all.drop i) i ⟨out,0,0,bare⟩):=by
   intro out bare ho hb
   refine Ev.step (fun _=>r06_Parse.l0.eq_2 ..) ?_
   by_cases h:i<all.length
   ·simp only [if_pos (show (i:Int)<(all.length:Int) by omega),if_pos (show 0≤(i:Int) by omega),rdS_at h]
    rw [List.drop_eq_getElem_cons h]
    have hg:all[i]?=some all[i]:=List.getElem?_eq_getElem h
    rw [hg] at hb
    have hm:=hall all[i] (List.getElem_mem h)
    generalize all[i]=t at hb hm
    refine Ev.bind (rhead_ev t hm.2) ?_
    have hs:stepP ⟨out,0,0,bare⟩ t=(headB t).map fun h=>⟨out++[h],h.f1,h.f3,true⟩:=by
     unfold stepP
     simp only
     rw [if_neg (fun h2=>hb h2.2 (by rw [h2.1])),if_pos ⟨trivial,trivial⟩]
    rcases hh:headB t with _|y
    ·rw [hh] at hs
     rw [parseL_none _ _ hs]
     simp only [five,Bool.false_eq_true,if_false,wi]
     exact Ev.now _
    ·rw [hh] at hs
     rw [parseL_step _ _ hs]
     have hr:=headB_range hh
     have h4:y.f4=[]:=hr.2.2.2.2.2.2.2.2
     simp only [five,if_true,wi]
     have h1:=(ih (all.length - (i+1)) (by omega) (i+1) rfl (by omega)).2 out y true ⟨by omega,by rw [h4];exact Nat.zero_le _,by rw [h4];exact hr.2.2.1,by rw [h4];exact hr.2.2.2.2.2.2.1,by rw [h4];simp,fun h=>Bool.noConfusion h⟩
     rw [h4] at h1 ⊢
     simpa [manyL] using h1
   ·simp only [if_neg (show ¬ (i:Int)<(all.length:Int) by omega)]
    rw [List.drop_of_length_le (by omega),parseL,if_neg (by simp)]
    exact Ev.now _
  refine ⟨P0,?_⟩
  intro out y bare c
  have hL:=c.hL
  have ca:=c.a
  have cb:=c.b
  refine Ev.step (fun _=>r06_Parse.l1.eq_2 ..) ?_
  refine Ev.bind (Many_ev y.f4 45 (by omega)) ?_
  -- the state behind the test
  have hj:∀ z:Bool,(z=false ↔ (y.f1 - (manyL 45 y.f4:Int)=0∧y.f3 - (manyL 43 y.f4:Int)=0)) →
    Ev (fun k=>r06_Parse.j2 k all out (i:Int) z y.f0 y.f1 y.f2 y.f3 y.f4) (parseL (all.drop i) i ⟨out++[y],y.f1 - (manyL 45 y.f4:Int),y.f3 - (manyL 43 y.f4:Int),bare⟩):=by
   intro z hz
   refine Ev.step (fun _=>r06_Parse.j2.eq_2 ..) ?_
   cases z with
   | false =>
    simp only [Bool.false_eq_true,if_false]
    obtain ⟨z1,z2⟩:=hz.1 rfl
    rw [z1,z2]
    simp only [if_pos (show out.length<2513169434916 by have:=c.ho;omega)]
    exact P0 (out++[y]) bare (by rw [List.length_append];exact c.ho) c.hb
   | true =>
    have hz2:¬ (y.f1 - (manyL 45 y.f4:Int)=0∧y.f3 - (manyL 43 y.f4:Int)=0):=fun h=>Bool.noConfusion (hz.2 h)
    simp only [if_true]
    by_cases h:i=all.length
    ·simp only [if_pos (show (i:Int)=(all.length:Int) by omega),wi]
     rw [List.drop_of_length_le (by omega),parseL,if_pos (show (y.f1 - (manyL 45 y.f4:Int)) > 0∨(y.f3 - (manyL 43 y.f4:Int)) > 0 by omega)]
     exact Ev.now _
    ·have hlt:i<all.length:=by omega
     have hg:all[i]?=some all[i]:=List.getElem?_eq_getElem hlt
     have hb:=c.hb
     rw [hg] at hb
     have hm:=hall all[i] (List.getElem_mem hlt)
     simp only [if_neg (show ¬ (i:Int)=(all.length:Int) by omega),if_pos (show 0≤(i:Int) by omega),if_pos (show (i:Int)<(all.length:Int) by omega),rdS_at hlt]
     rw [List.drop_eq_getElem_cons hlt]
     generalize all[i]=t at hb hm
     refine Ev.bind (fits_ev y t (by omega) hm.1 hm.2 c.good) ?_
     have hs:=step_fits out y bare t (fun h2=>hb h2.2 (by rw [h2.1])) hm.1 hz2
     by_cases hf:FitsP y t
     ·rw [if_pos hf] at hs
      rw [parseL_step _ _ hs]
      simp only [decide_eq_true hf,if_true,Option.bind_some,if_pos (show y.f4.length<8796093022208 by omega),wi,fun k=>doc_next k all out i y t hn hlt hL hm.1 hm.2 hf.1]
      by_cases hmk:all[i+1]?=some openB
      ·have h1:i+1<all.length:=(List.getElem?_eq_some_iff.1 hmk).1
       have hc1:=c.mark hf hm.1
       have hp:=chop_pos hm.1 hf.2.1
       have hst:=step_mark out y (y.f1 - (manyL 45 (y.f4++[t]):Int)) (y.f3 - (manyL 43 (y.f4++[t]):Int)) t
       have m1:=many_chop y.f4 hf.1 hm.1 hp 45
       have m2:=many_chop y.f4 hf.1 hm.1 hp 43
       have hi2:=(ih (all.length - (i+2)) (by omega) (i+2) rfl (by omega)).2 out _ true hc1
       simp only [if_pos hmk]
       rw [List.drop_eq_getElem_cons h1,(List.getElem?_eq_some_iff.1 hmk).2,parseL_step _ _ hst]
       simp only [m1,m2] at hi2
       exact hi2
      ·simp only [if_neg hmk]
       have hc1:=c.next hf hm.1 hmk
       exact (ih (all.length - (i+1)) (by omega) (i+1) rfl (by omega)).2 out _ false hc1
     ·rw [if_neg hf] at hs
      rw [parseL_none _ _ hs]
      simp only [decide_eq_false hf,Bool.false_eq_true,if_false,wi]
      exact Ev.now _
  by_cases h45:(manyL 45 y.f4:Int)<y.f1
  ·simp only [if_pos h45]
   exact hj true ⟨fun h=>Bool.noConfusion h,fun h=>by omega⟩
  ·simp only [if_neg h45]
   refine Ev.bind (Many_ev y.f4 43 (by omega)) ?_
   exact hj _ (by rw [decide_eq_false_iff_not];constructor<;>intro h<;>omega)
theorem rparse_ev (s:ByteArray) (hs:s.size≤100000):Ev (fun k=>r06_Parse.f k s) (parseU s):=by
 refine Ev.bind (RSplit_ev s (by omega)) ?_
 unfold parseU
 have hl:=linesB_len s
 have:=(parse_in (linesB s) (fun t ht=>⟨(linesB_ok s t ht).2,by have:=(linesB_mem ht).2;omega⟩) (by omega) _ 0 rfl (Nat.zero_le _)).1 [] true (Nat.le_refl _) (fun h=>Bool.noConfusion h)
 exact this
end Go.Proofs.YtamojbfmphainaaDoor.Pr
-- shrunk
/-
UnifiedParses, walked.
-/
namespace Go.Proofs.YtamojbfmphainaaDoor.Pr
open Go.RowKit Go.Proofs.YtamojbfmphainaaDoorW.PrintWords Go.Proofs.YtamojbfmphainaaDoorW.PrintLast Go.Proofs.YtamojbfmphainaaDoorW.PrintMore
theorem parseU_few (s:ByteArray) (hs:s.size≤500):(parseU s).1.length≤1000∧∀ x ∈ (parseU s).1,x.f4.length≤1000:=by
 rcases parse_back s with ⟨_,_,hc,hb⟩|⟨h,_⟩
 ·have h1:=told_size (parseU s).1 hc
  rw [hb] at h1
  have e:s.data.toList.length=s.size:=rfl
  refine ⟨by omega,fun x hx=>?_⟩
  have:=(h1.2 x hx).1
  omega
 ·rw [h];exact ⟨Nat.zero_le _,fun x hx=>by cases hx⟩
set_option maxRecDepth 100000 in
set_option maxHeartbeats 4000000 in
theorem parses_law (s:ByteArray) (w:World) (hL:LaidU w) :
  Calls Tryd.prog 4 #[.string s] w fun e w'=>e=.returned (.bool true)∧Below w.heap.size w w':=by
 have HL:=Aside0.mk hL
 have CA:=Aside0.mk (awakeU_calls w hL)
 by_cases hz:s.size≤500
 ·obtain ⟨hf1,hf2⟩:=parseU_few s hz
  rcases hp:parseU s with ⟨a,n,e0⟩
  rw [hp] at hf1 hf2
  simp only at hf1 hf2
  have CP:=Aside0.mk (show ∀ W,LaidU W→Calls Tryd.prog 12 #[.string s] W fun e w'=>∃ B c,e=.returned (.tuple #[.slice B a.length c,.int .i64 n,.int .i64 e0])∧a.length≤c∧Kd.C k41 w' B a.length a∧Below W.heap.size W w' from fun W hW=>by
   have h1:=parse_calls s (by omega) W hW
   unfold ParseEnd at h1
   rw [hp] at h1
   exact h1)
  obtain ⟨k1,hk1⟩:=(rparse_ev s (by omega)).rounds
  rw [hp] at hk1
  have CD:=Aside0.mk (fun W=>r06_Parse.calls k1 s a n e0 W hk1)
  obtain ⟨ks,hks⟩:=(SameH_ev a (by omega) (fun x hx=>by have:=hf2 x hx;omega)).rounds
  have CS:=Aside0.mk (show ∀ B c6 E c8 W,Kd.C k41 W B a.length a→a.length≤c6→Kd.C k41 W E a.length a→a.length≤c8→Calls Tryd.prog 14 #[.slice B a.length c6,.slice E a.length c8] W fun e w'=>e=.returned (.bool true)∧Below W.heap.size W w' from fun B c6 E c8 W h1 h2 h3 h4=>r05_Same.calls ks B c6 a E c8 a true W h1 h2 h3 h4 hks)
  have f1:decide ((s.size:Int) > 500)=false:=decide_eq_false (by omega)
  have f1b:decide (500<s.size)=false:=decide_eq_false (by omega)
  have f1c:decide ((500:Int)<(s.size:Int))=false:=decide_eq_false (by omega)
  clear hL hz hf1 hf2 hp hk1 hks
  go_enter Tryd.func4,Tryd.ntmps4
  go_wp2_with (first
   | (go_at_call 8;(with_reducible refine CA.out.mono ?_);rintro e w1 ⟨rfl,hb⟩;have HB1:=Aside0.mk hb;have HL1:=Aside0.mk (HL.out.below hb);clear hb)
   | (go_at_call 12;(with_reducible refine (CP.out _ HL1.out).mono ?_);rintro e w2 ⟨B2,c2,rfl,hc2,hr2,hb⟩;have HC2:=Aside0.mk hc2;have HR2:=Aside0.mk hr2;have HB2:=Aside0.mk (below_step HB1.out hb);clear hc2 hr2 hb)
   | (go_at_call 13;(with_reducible refine (CD.out _).mono ?_);rintro e w3 ⟨v3,rfl,ho,hb⟩;obtain ⟨A3,c3,e3⟩:=Kd.S_slice ho;subst e3;have HR3:=Aside0.mk (Kd.S_reads' ho).2;have HR23:=Aside0.mk (Kd.C_below HR2.out hb);have HB3:=Aside0.mk (below_step HB2.out hb);clear ho hb)
   | (go_at_call 14;(with_reducible refine (CS.out _ _ _ _ _ HR23.out HC2.out HR3.out.2 HR3.out.1).mono ?_);rintro e w4 ⟨rfl,hb⟩;have HB4:=Aside0.mk (below_step HB3.out hb);clear hb))
  go_ret
  exact ⟨rfl,HB4.out⟩
 ·have f1:decide ((s.size:Int) > 500)=true:=decide_eq_true (by omega)
  have f1b:decide (500<s.size)=true:=decide_eq_true (by omega)
  have f1c:decide ((500:Int)<(s.size:Int))=true:=decide_eq_true (by omega)
  clear hz hL
  go_enter Tryd.func4,Tryd.ntmps4
  go_wp2_with (go_at_call 8;(with_reducible refine CA.out.mono ?_);rintro e w1 ⟨rfl,hb⟩;have HB1:=Aside0.mk hb;clear hb)
  go_ret
  exact ⟨rfl,HB1.out⟩
end Go.Proofs.YtamojbfmphainaaDoor.Pr
-- shrunk
/-
Arguments that are slices of whatever kind, opened, with the sizes of all that is read behind them. General: no program in sight.
-/
namespace Go.Proofs.YtamojbfmphainaaDoor.Pr
open Go.RowKit Go.Proofs.YtamojbfmphainaaDoorW.PrintWords Go.Proofs.YtamojbfmphainaaDoorW.PrintLast Go.Proofs.YtamojbfmphainaaDoorW.PrintMore
open Go.ChangeShapes Go.WideShapes Go.Deep
def Rz (P:Program) {α:Type} (d:Kd α) (S:α→Prop) (t:TypeId):Prop :=
 ∀ (H:Type) (enc:TypeId × Value→H) (w:World) (base:Nat) (spare:Nat→Bool) (held:Bool) (fuel:Nat) (cs:List Value) (x:DataW H × List MemPlace),
  DataW.trod enc P w base spare held fuel t cs=some x→(∀ n ∈ x.1.weights P t,n≤140737488351232)→∃ y,d.K w y cs∧S y
theorem Rz.int {P:Program} {t:TypeId} {k:IntKind} (hu:P.underlying t=some (.int k)):Rz P (Kd.int k) (fun n=>(Lit.int k n).wf=true) t:=fun H enc w base spare held fuel cs x h _=>by
 obtain ⟨n,rfl,_,hw⟩:=DataW.trod_int hu h
 exact ⟨n,rfl,hw⟩
theorem Rz.string {P:Program} {t:TypeId} (hu:P.underlying t=some .string):Rz P Kd.string (fun s=>s.size≤140737488351232) t:=fun H enc w base spare held fuel cs x h hz=>by
 obtain ⟨s,rfl,rfl,_⟩:=DataW.trod_string hu h
 refine ⟨s,rfl,?_⟩
 have:=hz s.data.toList.length (by simp [DataW.weights])
 simpa using this
theorem weights_mem_all {H:Type} {P:Program} {e:TypeId}:∀ {l:List (DataW H)} {d:DataW H},d ∈ l→∀ n ∈ d.weights P e,n ∈ DataW.weightsAll P e l
 | c :: l,d,hd,n,hn=>by
  simp only [DataW.weightsAll,List.mem_append]
  rcases List.mem_cons.1 hd with rfl|hd
  ·exact Or.inl hn
  ·exact Or.inr (weights_mem_all hd n hn)
theorem Rz.slice {P:Program} {α:Type} {d:Kd α} {S:α→Prop} {t e:TypeId} {B:Nat} (hu:P.underlying t=some (.slice e)) (hc:P.cellsOf e=d.sz) (hB:P.bytesOf e=B) (hd:Rz P d S e) :
  Rz P (Kd.slice e d) (fun xs=>xs.length * B≤140737488351232∧∀ y ∈ xs,S y) t:=fun H enc w base spare held fuel cs x h hz=>by
 rcases open_slice hu h with ⟨rfl,_⟩|⟨a,len,cap,m,n,D,Pl,rfl,hb,hl,hm,hmm,rfl,hx⟩
 ·exact ⟨[],⟨none,0,rfl,Nat.le_refl _,rfl,by simp,fun h0=>absurd h0 (Nat.lt_irrefl _)⟩,by simp,by simp⟩
 ·have hlm:len≤m:=by rw [hmm];split<;>omega
  have hw0:len * B≤140737488351232:=by
   have h1:=hz ((((List.range len).map D).length+((List.range (m - len)).map fun j=>D (len+j)).length) * P.bytesOf e) (by simp [DataW.weights,hu])
   rw [hB] at h1
   simp only [List.length_map,List.length_range] at h1
   exact Nat.le_trans (Nat.mul_le_mul_right _ (Nat.le_add_right _ _)) h1
  have hw1:∀ i,i<len→∀ q ∈ (D i).weights P e,q≤140737488351232:=fun i hi q hq=>by
   refine hz q ?_
   simp only [DataW.weights,hu,List.mem_cons,List.mem_append]
   exact Or.inr (Or.inl (weights_mem_all (List.mem_map.2 ⟨i,List.mem_range.2 hi,rfl⟩) q hq))
  have key:∀ k,k≤len→∃ xs:List α,xs.length=k∧(∀ y ∈ xs,S y)∧∀ j p,xs[j]?=some p→∃ c,c.length=d.sz∧d.K w p c∧∀ i u,c[i]?=some u→w.cell? (a.add (j * d.sz+i))=some u:=by
   intro k
   induction k with
   | zero=>exact fun _=>⟨[],rfl,by simp,fun j p hj=>by simp at hj⟩
   | succ k ih =>
    intro hk
    obtain ⟨xs,hxl,hS,hxs⟩:=ih (by omega)
    obtain ⟨cs',h1,h2⟩:=hx k (by omega)
    obtain ⟨y,hy,hSy⟩:=hd H enc w base spare held n cs' _ h2 (hw1 k (by omega))
    obtain ⟨_,hlen,hcell⟩:=World.cells?_some h1
    refine ⟨xs++[y],by simp [hxl],fun z hz=>?_,fun j p hj=>?_⟩
    ·rcases List.mem_append.1 hz with hz|hz
     ·exact hS z hz
     ·rw [List.mem_singleton.1 hz];exact hSy
    by_cases hjk:j<k
    ·rw [List.getElem?_append_left (by omega)] at hj
     exact hxs j p hj
    ·have hj':j=k:=by
      have:j<(xs++[y]).length:=by
       rcases Nat.lt_or_ge j (xs++[y]).length with h|h
       ·exact h
       ·rw [List.getElem?_eq_none h] at hj;cases hj
      simp [hxl] at this;omega
     subst hj'
     rw [List.getElem?_append_right (by omega),hxl,Nat.sub_self] at hj
     obtain rfl:=Option.some.inj hj
     refine ⟨cs',by rw [hlen,hc],hy,fun i u hi=>?_⟩
     have hlt:i<cs'.length:=by
      rcases Nat.lt_or_ge i cs'.length with h|h
      ·exact h
      ·rw [List.getElem?_eq_none h] at hi;cases hi
     rw [← hc,← Deep.add_add,hcell i (by omega),hi]
  obtain ⟨xs,rfl,hS,hxs⟩:=key len (Nat.le_refl _)
  exact ⟨xs,⟨some a,cap,rfl,hl,rfl,by unfold maxLen at hm;omega,fun _=>⟨a,rfl,hxs⟩⟩,hw0,hS⟩
inductive RzF (P:Program):{α:Type}→Kd α→(α→Prop)→Nat→List Field→Prop
 | last {α:Type} {d:Kd α} {S:α→Prop} {f:Field} {off:Nat}:f.offset=off→P.cellsOf f.type=d.sz→Rz P d S f.type→RzF P d S off [f]
 | cons {α β:Type} {a:Kd α} {b:Kd β} {S:α→Prop} {U:β→Prop} {f:Field} {fs:List Field} {off:Nat}:f.offset=off→P.cellsOf f.type=a.sz→Rz P a S f.type→RzF P b U (off+a.sz) fs→RzF P (Kd.pair a b) (fun x=>S x.1∧U x.2) off (f :: fs)
theorem RzF.read {P:Program} {H:Type} {enc:TypeId × Value→H} {w:World} {base:Nat} {spare:Nat→Bool} {held:Bool} {cs:List Value} {α:Type} {d:Kd α} {S:α→Prop} {off:Nat} {fs:List Field} (h:RzF P d S off fs) :
  (∀ f ∈ fs,∃ n x,DataW.trod enc P w base spare held n f.type ((cs.drop f.offset).take (P.cellsOf f.type))=some x∧∀ q ∈ x.1.weights P f.type,q≤140737488351232)→∃ y,d.K w y ((cs.drop off).take d.sz)∧S y:=by
 induction h with
 | last ho hc hr =>
  intro hf
  obtain ⟨n,x,hx,hw⟩:=hf _ (List.mem_singleton.2 rfl)
  rw [ho,hc] at hx
  exact hr H enc w base spare held n _ x hx hw
 | @cons α β a b S U f fs off ho hc hr _ ih =>
  intro hf
  obtain ⟨n,x,hx,hw⟩:=hf _ List.mem_cons_self
  rw [ho,hc] at hx
  obtain ⟨y0,h0,s0⟩:=hr H enc w base spare held n _ x hx hw
  obtain ⟨y1,h1,s1⟩:=ih (fun g hg=>hf g (List.mem_cons_of_mem _ hg))
  refine ⟨(y0,y1),⟨_,_,?_,h0,h1⟩,s0,s1⟩
  show List.take (a.sz+b.sz) _=_
  rw [List.take_add,List.drop_drop]
theorem Rz.struct {P:Program} {α:Type} {d:Kd α} {S:α→Prop} {t:TypeId} {fs:Array Field} (hu:P.underlying t=some (.struct fs)) (hc:P.cellsOf t=d.sz) (hf:RzF P d S 0 fs.toList):Rz P d S t:=fun H enc w base spare held fuel cs x h hz=>by
 obtain ⟨xs,n,_,rfl,hl,hlen,hx⟩:=DataW.trod_struct hu h
 have h2:=hf.read (enc:=enc) (w:=w) (base:=base) (spare:=spare) (held:=held) (cs:=cs) (fun f hm=>by
  obtain ⟨i,hi,he⟩:=List.mem_iff_getElem.1 hm
  have h3:=hx i f (by rw [← he];simp)
  have hi':i<xs.length:=by rw [hlen];simpa using hi
  rw [List.getElem?_eq_getElem hi'] at h3
  refine ⟨n,_,h3,fun q hq=>hz q ?_⟩
  simp only [DataW.weights,hu]
  refine DataW.weights_mem_each (j:=i) (t:=f.type) (d:=xs[i].1) ?_ ?_ q hq
  ·rw [List.getElem?_map,List.getElem?_eq_getElem hi,he];rfl
  ·rw [List.getElem?_map,List.getElem?_eq_getElem hi'];rfl)
 rw [List.drop_zero,List.take_of_length_le (by omega)] at h2
 exact h2
theorem Rz.iso {P:Program} {α β:Type} {d:Kd α} {S:α→Prop} {f:β→α} {t:TypeId} (h:Rz P d S t) (g:∀ y,∃ x,f x=y):Rz P (Kd.iso d f) (fun x=>S (f x)) t:=fun H enc w base spare held fuel cs x hx hz=>by
 obtain ⟨y,hy,hs⟩:=h H enc w base spare held fuel cs x hx hz
 obtain ⟨z,rfl⟩:=g y
 exact ⟨z,hy,hs⟩
theorem Rz.mono {P:Program} {α:Type} {d:Kd α} {S S':α→Prop} {t:TypeId} (h:Rz P d S t) (g:∀ x,S x→S' x):Rz P d S' t:=fun H enc w base spare held fuel cs x hx hz=>by
 obtain ⟨y,hy,hs⟩:=h H enc w base spare held fuel cs x hx hz
 exact ⟨y,hy,g y hs⟩
end Go.Proofs.YtamojbfmphainaaDoor.Pr
-- shrunk
/-
The kinds of the lower layers' arguments, with sizes: lists of texts, edits.
-/
namespace Go.Proofs.YtamojbfmphainaaDoor.Pr
open Go.RowKit Go.Proofs.YtamojbfmphainaaDoorW.PrintWords Go.Proofs.YtamojbfmphainaaDoorW.PrintLast Go.Proofs.YtamojbfmphainaaDoorW.PrintMore
end Go.Proofs.YtamojbfmphainaaDoor.Pr
-- shrunk
/-
The kinds of layer 7's arguments, with sizes: hunks.
-/
namespace Go.Proofs.YtamojbfmphainaaDoor.Pr
open Go.RowKit Go.Proofs.YtamojbfmphainaaDoorW.PrintWords Go.Proofs.YtamojbfmphainaaDoorW.PrintLast Go.Proofs.YtamojbfmphainaaDoorW.PrintMore
end Go.Proofs.YtamojbfmphainaaDoor.Pr
-- shrunk
