/-
Several plain texts in one.
-/
import Derived.Test.YtnmphfelebkaiaaK0
import Derived.Test.YtnmphfelebkaiaaGRefDiff
import Derived.Test.YtnmphfelebkaiaaK3
import Derived.Test.YtnmphfelebkaiaaK1
set_option linter.unusedVariables false
set_option linter.unusedSimpArgs false
-- written by a program of this session's (a turned copy of the kit's printer); Lean checks it
namespace Go.Proofs.Ytnmphfelebkaiaa.Pr
open Go.RowKit Go.Proofs.YtnmphfelebkaiaaW.PrintWords Go.Proofs.YtnmphfelebkaiaaW.PrintLast Go.Proofs.YtnmphfelebkaiaaW.PrintMore
attribute [local go_sem] max2_int min2_int max_two min_two max_three min_three max_four min_four   -- for this text's walks alone

mutual
def r08_Regions.l0:Nat→List ByteArray→List ByteArray→List ByteArray→List (S52)→List (S52)→List Int→List (S32)→Int→Int→Int→Option ((List (S32)))
 | 0,_,_,_,_,_,_,_,_,_,_=>none
 | k+1,x0,x1,x2,x7,x8,x9,x10,x11,x12,x13=>if x11≤(x0.length:Int) then (r08_Regions.l1 k x0 x1 x2 x7 x8 x9 x10 x11 x12 x13 (-1) (wrap64 ((x0.length:Int)+1)) 0) else (some x10)
def r08_Regions.l1:Nat→List ByteArray→List ByteArray→List ByteArray→List (S52)→List (S52)→List Int→List (S32)→Int→Int→Int→Int→Int→Int→Option ((List (S32)))
 | 0,_,_,_,_,_,_,_,_,_,_,_,_,_=>none
 | k+1,x0,x1,x2,x7,x8,x9,x10,x11,x12,x13,x14,x15,x16=>if x16<(x8.length:Int) then (if 0≤x16 then (if ((rd_T52 x8 x16).f0) ≥ x11 then (if ((rd_T52 x8 x16).f0)<x15 then (r08_Regions.l1 k x0 x1 x2 x7 x8 x9 x10 x11 x12 x13 x16 ((rd_T52 x8 x16).f0) (wrap64 (x16+1))) else (r08_Regions.l1 k x0 x1 x2 x7 x8 x9 x10 x11 x12 x13 x14 x15 (wrap64 (x16+1)))) else (r08_Regions.l1 k x0 x1 x2 x7 x8 x9 x10 x11 x12 x13 x14 x15 (wrap64 (x16+1)))) else (none)) else (if x15 > x11 then (r08_Regions.j2 k x0 x1 x2 x7 x8 x9 x10 x11 x12 x13 x14 x15 (decide (x11<(x0.length:Int)))) else (r08_Regions.j2 k x0 x1 x2 x7 x8 x9 x10 x11 x12 x13 x14 x15 false))
def r08_Regions.j2:Nat→List ByteArray→List ByteArray→List ByteArray→List (S52)→List (S52)→List Int→List (S32)→Int→Int→Int→Int→Int→Bool→Option ((List (S32)))
 | 0,_,_,_,_,_,_,_,_,_,_,_,_,_=>none
 | k+1,x0,x1,x2,x7,x8,x9,x10,x11,x12,x13,x14,x15,x80=>if x80=true then (if x10.length<2513169434916 then (r08_Regions.j3 k x0 x1 x2 x7 x8 x9 (x10++[(⟨0,(⟨x11,wrap64 ((mn x15 (x0.length:Int)) - x11)⟩:S30),(⟨x12,wrap64 ((mn x15 (x0.length:Int)) - x11)⟩:S30),(⟨x13,wrap64 ((mn x15 (x0.length:Int)) - x11)⟩:S30)⟩:S32)]) (wrap64 (x12+(wrap64 ((mn x15 (x0.length:Int)) - x11)))) (wrap64 (x13+(wrap64 ((mn x15 (x0.length:Int)) - x11)))) x14 x15) else (none)) else (r08_Regions.j3 k x0 x1 x2 x7 x8 x9 x10 x12 x13 x14 x15)
def r08_Regions.j3:Nat→List ByteArray→List ByteArray→List ByteArray→List (S52)→List (S52)→List Int→List (S32)→Int→Int→Int→Int→Option ((List (S32)))
 | 0,_,_,_,_,_,_,_,_,_,_,_=>none
 | k+1,x0,x1,x2,x7,x8,x9,x10,x12,x13,x14,x15=>if x14<0 then (some x10) else (r08_Regions.l2 k x0 x1 x2 x7 x8 x9 x10 x12 x13 x14 x15 x15 false false 0 0 x15 0 x12 0 x13 0)
def r08_Regions.l2:Nat→List ByteArray→List ByteArray→List ByteArray→List (S52)→List (S52)→List Int→List (S32)→Int→Int→Int→Int→Int→Bool→Bool→Int→Int→Int→Int→Int→Int→Int→Int→Option ((List (S32)))
 | 0,_,_,_,_,_,_,_,_,_,_,_,_,_,_,_,_,_,_,_,_,_,_=>none
 | k+1,x0,x1,x2,x7,x8,x9,x10,x12,x13,x14,x15,x19,x20,x21,x22,x157000,x157001,x157002,x157003,x157004,x157005,x157006=>if x22<(x8.length:Int) then (if 0≤x22 then (if x22<(x9.length:Int) then (if 0≤x14 then (if x14<(x9.length:Int) then (if (rd x9 x22)=(rd x9 x14) then (if x22<(x7.length:Int) then (r08_Regions.l2 k x0 x1 x2 x7 x8 x9 x10 x12 x13 x14 x15 (mx x19 (wrap64 (((rd_T52 x8 x22).f0)+((rd_T52 x8 x22).f1)))) true x21 (wrap64 (x22+1)) x157000 x157001 x157002 x157003 (wrap64 ((wrap64 (x157004+(((rd_T52 x8 x22).f2).length:Int))) - ((rd_T52 x8 x22).f1))) x157005 x157006) else (r08_Regions.l2 k x0 x1 x2 x7 x8 x9 x10 x12 x13 x14 x15 (mx x19 (wrap64 (((rd_T52 x8 x22).f0)+((rd_T52 x8 x22).f1)))) x20 true (wrap64 (x22+1)) x157000 x157001 x157002 x157003 x157004 x157005 (wrap64 ((wrap64 (x157006+(((rd_T52 x8 x22).f2).length:Int))) - ((rd_T52 x8 x22).f1))))) else (r08_Regions.l2 k x0 x1 x2 x7 x8 x9 x10 x12 x13 x14 x15 x19 x20 x21 (wrap64 (x22+1)) x157000 x157001 x157002 x157003 x157004 x157005 x157006)) else (none)) else (none)) else (none)) else (none)) else (if 0≤x12 then (if x12≤(wrap64 (x12+(wrap64 ((wrap64 (x157004+x19)) - x15)))) then (if (wrap64 (x12+(wrap64 ((wrap64 (x157004+x19)) - x15))))≤(x1.length:Int) then (if 0≤x13 then (if x13≤(wrap64 (x13+(wrap64 ((wrap64 (x157006+x19)) - x15)))) then (if (wrap64 (x13+(wrap64 ((wrap64 (x157006+x19)) - x15))))≤(x2.length:Int) then ((r01_Texts.f k ((x1.take ((wrap64 (x12+(wrap64 ((wrap64 (x157004+x19)) - x15)))):Int).toNat).drop (x12:Int).toNat) ((x2.take ((wrap64 (x13+(wrap64 ((wrap64 (x157006+x19)) - x15)))):Int).toNat).drop (x13:Int).toNat)).bind fun t167=>(if t167=true then (r08_Regions.j5 k x0 x1 x2 x7 x8 x9 x10 x12 x13 x14 x19 x20 x21 3 x157001 (wrap64 (x19 - x15)) x157003 (wrap64 ((wrap64 (x157004+x19)) - x15)) x157005 (wrap64 ((wrap64 (x157006+x19)) - x15))) else (r08_Regions.j5 k x0 x1 x2 x7 x8 x9 x10 x12 x13 x14 x19 x20 x21 4 x157001 (wrap64 (x19 - x15)) x157003 (wrap64 ((wrap64 (x157004+x19)) - x15)) x157005 (wrap64 ((wrap64 (x157006+x19)) - x15))))) else (none)) else (none)) else (none)) else (none)) else (none)) else (none))
def r08_Regions.j5:Nat→List ByteArray→List ByteArray→List ByteArray→List (S52)→List (S52)→List Int→List (S32)→Int→Int→Int→Int→Bool→Bool→Int→Int→Int→Int→Int→Int→Int→Option ((List (S32)))
 | 0,_,_,_,_,_,_,_,_,_,_,_,_,_,_,_,_,_,_,_,_=>none
 | k+1,x0,x1,x2,x7,x8,x9,x10,x12,x13,x14,x19,x20,x21,x157000,x157001,x157002,x157003,x157004,x157005,x157006=>if x21=true then (r08_Regions.j6 k x0 x1 x2 x7 x8 x9 x10 x12 x13 x14 x19 x20 x157000 x157001 x157002 x157003 x157004 x157005 x157006) else (r08_Regions.j6 k x0 x1 x2 x7 x8 x9 x10 x12 x13 x14 x19 x20 1 x157001 x157002 x157003 x157004 x157005 x157006)
def r08_Regions.j6:Nat→List ByteArray→List ByteArray→List ByteArray→List (S52)→List (S52)→List Int→List (S32)→Int→Int→Int→Int→Bool→Int→Int→Int→Int→Int→Int→Int→Option ((List (S32)))
 | 0,_,_,_,_,_,_,_,_,_,_,_,_,_,_,_,_,_,_,_=>none
 | k+1,x0,x1,x2,x7,x8,x9,x10,x12,x13,x14,x19,x20,x157000,x157001,x157002,x157003,x157004,x157005,x157006=>if x20=true then (r08_Regions.j7 k x0 x1 x2 x7 x8 x9 x10 x12 x13 x14 x19 x157000 x157001 x157002 x157003 x157004 x157005 x157006) else (r08_Regions.j7 k x0 x1 x2 x7 x8 x9 x10 x12 x13 x14 x19 2 x157001 x157002 x157003 x157004 x157005 x157006)
def r08_Regions.j7:Nat→List ByteArray→List ByteArray→List ByteArray→List (S52)→List (S52)→List Int→List (S32)→Int→Int→Int→Int→Int→Int→Int→Int→Int→Int→Int→Option ((List (S32)))
 | 0,_,_,_,_,_,_,_,_,_,_,_,_,_,_,_,_,_,_=>none
 | k+1,x0,x1,x2,x7,x8,x9,x10,x12,x13,x14,x19,x157000,x157001,x157002,x157003,x157004,x157005,x157006=>if x10.length<2513169434916 then (r08_Regions.l3 k x0 x1 x2 x7 x8 x9 (x10++[(⟨x157000,(⟨x157001,x157002⟩:S30),(⟨x157003,x157004⟩:S30),(⟨x157005,x157006⟩:S30)⟩:S32)]) x19 (wrap64 (x12+x157004)) (wrap64 (x13+x157006)) x14 0) else (none)
def r08_Regions.l3:Nat→List ByteArray→List ByteArray→List ByteArray→List (S52)→List (S52)→List Int→List (S32)→Int→Int→Int→Int→Int→Option ((List (S32)))
 | 0,_,_,_,_,_,_,_,_,_,_,_,_=>none
 | k+1,x0,x1,x2,x7,x8,x9,x10,x11,x12,x13,x14,x24=>if x24<(x8.length:Int) then (if 0≤x24 then (if x24<(x9.length:Int) then (if 0≤x14 then (if x14<(x9.length:Int) then (if (rd x9 x24)=(rd x9 x14) then (if x24=x14 then (r08_Regions.l3 k x0 x1 x2 x7 x8 x9 x10 x11 x12 x13 x14 (wrap64 (x24+1))) else (r08_Regions.l3 k x0 x1 x2 x7 (x8.set (x24:Int).toNat (⟨(-1),(rd_T52 x8 x24).f1,(rd_T52 x8 x24).f2⟩:S52)) x9 x10 x11 x12 x13 x14 (wrap64 (x24+1)))) else (r08_Regions.l3 k x0 x1 x2 x7 x8 x9 x10 x11 x12 x13 x14 (wrap64 (x24+1)))) else (none)) else (none)) else (none)) else (none)) else (if 0≤x14 then (if x14<(x8.length:Int) then (r08_Regions.l0 k x0 x1 x2 x7 (x8.set (x14:Int).toNat (⟨(-1),(rd_T52 x8 x14).f1,(rd_T52 x8 x14).f2⟩:S52)) x9 x10 x11 x12 x13) else (none)) else (none))
end
def r08_Regions.f (k:Nat) (l0:List ByteArray) (l1:List ByteArray) (l2:List ByteArray):Option ((List (S32))):=(r04_Diff.f l0 l1).bind fun t132=>((some (([]:List (S52)):List (S52))).bind fun y135=>(if y135.length+t132.length<3518437208883 then ((some (y135++t132:List (S52))).bind fun y138=>((r04_Diff.f l0 l2).bind fun t141=>(if y138.length+t141.length<3518437208883 then ((some (y138++t141:List (S52))).bind fun y144=>((r08_marks.f k y144).bind fun t147=>(r08_Regions.l0 k l0 l1 l2 t132 y144 t147 ([]:List (S32)) 0 0 0))) else (none)))) else (none)))
end Go.Proofs.Ytnmphfelebkaiaa.Pr
-- shrunk
/-
The loops of the document's Regions, as printed, each with what it does.
-/
namespace Go.Proofs.Ytnmphfelebkaiaa.Pr
open Go.RowKit Go.Proofs.YtnmphfelebkaiaaW.PrintWords Go.Proofs.YtnmphfelebkaiaaW.PrintLast Go.Proofs.YtnmphfelebkaiaaW.PrintMore
def negE (e:Ed):Ed:=⟨-1,e.f1,e.f2⟩
def First (L:List Ed) (t no:Int) (i:Nat) (first from_:Int):Prop :=
 (first = -1∧from_=no+1∧∀ k,k<i→(edA L k).f0<t) ∨
 (∃ f:Nat,f<i∧first=(f:Int)∧from_=(edA L f).f0∧t≤from_∧∀ k,k<i→t≤(edA L k).f0→from_≤(edA L k).f0)
theorem l1_ev {o a b:List ByteArray} {L0 L:List Ed} {M:List Int} {out:List S32} {t x y:Int} {r:List S32} (hn:L.length≤1099511627776) (hb:∀ k,(edA L k).f0≤(o.length:Int))
  (hk:∀ first from_,First L t o.length L.length first from_→Ev (fun k=>if from_ > t then (r08_Regions.j2 k o a b L0 L M out t x y first from_ (decide (t<(o.length:Int)))) else (r08_Regions.j2 k o a b L0 L M out t x y first from_ false)) r) :
  ∀ d i first from_,L.length - i=d→i≤L.length→First L t o.length i first from_→Ev (fun k=>r08_Regions.l1 k o a b L0 L M out t x y first from_ (i:Int)) r:=by
 intro d
 induction d with
 | zero =>
  intro i first from_ hd hi hF
  obtain rfl:i=L.length:=by omega
  refine Ev.step (fun _=>r08_Regions.l1.eq_2 ..) ?_
  simp only [if_neg (show ¬ (L.length:Int)<(L.length:Int) by omega)]
  exact hk _ _ hF
 | succ d ih =>
  intro i first from_ hd hi hF
  have hil:i<L.length:=by omega
  refine Ev.step (fun _=>r08_Regions.l1.eq_2 ..) ?_
  simp only [if_pos (show (i:Int)<(L.length:Int) by omega),if_pos (show 0≤(i:Int) by omega),rdT_nat,w_succ hil (show L.length≤4611686018427387904 by omega)]
  have hbi:=hb i
  by_cases c1:(edA L i).f0 ≥ t
  rotate_left
  ·simp only [if_neg c1]
   refine ih (i+1) _ _ (by omega) (by omega) ?_
   rcases hF with ⟨h1,h2,h3⟩|⟨f,h1,h2,h3,h4,h5⟩
   ·refine .inl ⟨h1,h2,fun k hk=>?_⟩
    by_cases e:k=i
    ·rw [e];omega
    exact h3 k (by omega)
   refine .inr ⟨f,by omega,h2,h3,h4,fun k hk h=>?_⟩
   by_cases e:k=i
   ·exfalso;rw [e] at h;omega
   exact h5 k (by omega) h
  simp only [if_pos c1]
  by_cases c2:(edA L i).f0<from_
  ·simp only [if_pos c2]
   refine ih (i+1) _ _ (by omega) (by omega) (.inr ⟨i,by omega,rfl,rfl,c1,fun k hk h=>?_⟩)
   rcases hF with ⟨h1,h2,h3⟩|⟨f,h1,h2,h3,h4,h5⟩
   ·by_cases e:k=i
    ·rw [e];exact Int.le_refl _
    have:=h3 k (by omega);omega
   by_cases e:k=i
   ·rw [e];exact Int.le_refl _
   have:=h5 k (by omega) h;omega
  simp only [if_neg c2]
  refine ih (i+1) _ _ (by omega) (by omega) ?_
  rcases hF with ⟨h1,h2,h3⟩|⟨f,h1,h2,h3,h4,h5⟩
  ·exfalso;omega
  refine .inr ⟨f,by omega,h2,h3,h4,fun k hk h=>?_⟩
  by_cases e:k=i
  ·rw [e];omega
  exact h5 k (by omega) h
theorem j2_ev {o a b:List ByteArray} {L0 L:List Ed} {M:List Int} {out:List S32} {t x y first from_:Int} {r:List S32} (ho:o.length≤1099511627776) (hout:out.length<2513169434916) (ht:0≤t) (hx:0≤x∧x≤1099511627776) (hy:0≤y∧y≤1099511627776)
  (hk1:t<from_→t<(o.length:Int)→Ev (fun k=>r08_Regions.j3 k o a b L0 L M (out++[⟨0,⟨t,mn from_ o.length - t⟩,⟨x,mn from_ o.length - t⟩,⟨y,mn from_ o.length - t⟩⟩]) (x+(mn from_ o.length - t)) (y+(mn from_ o.length - t)) first from_) r)
  (hk0:¬ (t<from_∧t<(o.length:Int))→Ev (fun k=>r08_Regions.j3 k o a b L0 L M out x y first from_) r) :
  Ev (fun k=>if from_ > t then (r08_Regions.j2 k o a b L0 L M out t x y first from_ (decide (t<(o.length:Int)))) else (r08_Regions.j2 k o a b L0 L M out t x y first from_ false)) r:=by
 by_cases c1:from_ > t
 rotate_left
 ·simp only [if_neg c1]
  refine Ev.step (fun _=>r08_Regions.j2.eq_2 ..) ?_
  simp only [Bool.false_eq_true,if_false]
  exact hk0 (fun h=>c1 h.1)
 simp only [if_pos c1]
 by_cases c2:t<(o.length:Int)
 ·rw [decide_eq_true c2]
  refine Ev.step (fun _=>r08_Regions.j2.eq_2 ..) ?_
  have hm:=mn_le from_ (o.length:Int)
  simp only [if_true,if_pos hout]
  rw [w_in (x:=mn from_ (o.length:Int) - t) (by omega) (by omega),w_in (by omega) (by omega),w_in (by omega) (by omega)]
  exact hk1 c1 c2
 rw [decide_eq_false c2]
 refine Ev.step (fun _=>r08_Regions.j2.eq_2 ..) ?_
 simp only [Bool.false_eq_true,if_false]
 exact hk0 (fun h=>c2 h.2)
def accS {α:Type} (f:α→Ed→α) (l:List Ed) (D:Nat→Bool) (z:α):Nat→α
 | 0=>z
 | i+1=>if D i=true then f (accS f l D z i) (edA l i) else accS f l D z i
def mxE (s:Int) (e:Ed):Int:=mx s (e.f0+e.f1)
def moE (s:Int) (e:Ed):Int:=s+(e.f2.length:Int) - e.f1
def ttE (_:Bool) (_:Ed):Bool:=true
theorem mx_le (a b:Int):a≤mx a b∧b≤mx a b∧(mx a b=a∨mx a b=b):=by
 unfold mx
 split<;>omega
theorem accS_seg {α:Type} (f:α→Ed→α) (l:List Ed) (D:Nat→Bool) (z:α) (p:List Ed) (i0:Nat) (hD:∀ i,D i=true ↔ i0≤i∧i<i0+p.length) (hp:∀ k,k<p.length→edA l (i0+k)=edA p k):∀ i,accS f l D z i=(p.take (i - i0)).foldl f z
 | 0=>by simp [accS]
 | i+1=>by
  rw [accS,accS_seg f l D z p i0 hD hp i]
  by_cases h:D i=true
  ·rw [if_pos h]
   obtain ⟨h1,h2⟩:=(hD i).1 h
   obtain ⟨k,rfl⟩:∃ k,i=i0+k:=⟨i - i0,by omega⟩
   rw [show i0+k+1 - i0=k+1 by omega,show i0+k - i0=k by omega,hp k (by omega),List.take_add_one,List.getElem?_eq_getElem (by omega),List.foldl_append]
   have:edA p k=p[k]:=by rw [edA,List.getD_eq_getElem?_getD,List.getElem?_eq_getElem (by omega),Option.getD_some]
   rw [this]
   rfl
  ·rw [if_neg h]
   have h2:¬ (i0≤i∧i<i0+p.length):=fun hh=>h ((hD i).2 hh)
   by_cases h3:i<i0
   ·rw [show i+1 - i0=0 by omega,show i - i0=0 by omega]
   ·rw [List.take_of_length_le (by omega),List.take_of_length_le (by omega)]
theorem foldl_mo:∀ (p:List Ed) (z:Int),p.foldl moE z=z+moreE p
 | [],z=>by simp [moreE]
 | e :: p,z=>by rw [List.foldl_cons,foldl_mo p];simp only [moreE,moE];omega
theorem foldl_tt:∀ (p:List Ed) (z:Bool),p.foldl ttE z=(z || !p.isEmpty)
 | [],z=>by simp
 | e :: p,z=>by rw [List.foldl_cons,foldl_tt p];simp [ttE]
theorem accS_mo (l:List Ed) (D:Nat→Bool) (hB:∀ i,0≤(edA l i).f1∧(edA l i).f1≤1099511627776∧(edA l i).f2.length≤1099511627776):∀ i,-(1099511627776 * i)≤accS moE l D 0 i∧accS moE l D 0 i≤1099511627776 * i
 | 0=>by simp [accS]
 | i+1=>by
  have h:=accS_mo l D hB i
  have hb:=hB i
  rw [accS]
  split
  ·simp only [moE];omega
  ·omega
theorem accS_mx (l:List Ed) (D:Nat→Bool) (F t2:Int) (h0:F≤t2) (hD:∀ i,D i=true→(edA l i).f0+(edA l i).f1≤t2):∀ i,F≤accS mxE l D F i∧accS mxE l D F i≤t2∧∀ k,k<i→D k=true→(edA l k).f0+(edA l k).f1≤accS mxE l D F i
 | 0=>⟨Int.le_refl _,h0,fun k hk=>by omega⟩
 | i+1=>by
  obtain ⟨h1,h2,h3⟩:=accS_mx l D F t2 h0 hD i
  rw [accS]
  split
  ·rename_i hd
   have h4:=mx_le (accS mxE l D F i) ((edA l i).f0+(edA l i).f1)
   have h5:=hD i hd
   simp only [mxE]
   refine ⟨by omega,by omega,fun k hk hdk=>?_⟩
   by_cases e:k=i
   ·rw [e];omega
   ·have:=h3 k (by omega) hdk;omega
  ·rename_i hd
   refine ⟨h1,h2,fun k hk hdk=>?_⟩
   by_cases e:k=i
   ·rw [e] at hdk;exact absurd hdk hd
   ·exact h3 k (by omega) hdk
theorem l2_ev {o a b:List ByteArray} {L0 L:List Ed} {M:List Int} {out:List S32} {x y F t2:Int} {f:Nat} {C:Nat→Bool} {r:List S32} (hn:L.length≤1048576) (hM:M.length=L.length) (hf:f<L.length) (HM:∀ i,i<L.length→(va M i=va M f ↔ C i=true))
  (hB:∀ i,0≤(edA L i).f1∧(edA L i).f1≤1099511627776∧(edA L i).f2.length≤1099511627776) (hE:∀ i,C i=true→0≤(edA L i).f0∧(edA L i).f0+(edA L i).f1≤t2) (h0:F≤t2) (hF:0≤F) (ht2:t2≤1099511627776)
  (hk:Ev (fun k=>r08_Regions.l2 k o a b L0 L M out x y (f:Int) F (accS mxE L C F L.length) (accS ttE L (fun i=>C i && decide (i<L0.length)) false L.length) (accS ttE L (fun i=>C i && !decide (i<L0.length)) false L.length) (L.length:Int) 0 F 0 x (accS moE L (fun i=>C i && decide (i<L0.length)) 0 L.length) y (accS moE L (fun i=>C i && !decide (i<L0.length)) 0 L.length)) r) :
  ∀ d i,L.length - i=d→i≤L.length→Ev (fun k=>r08_Regions.l2 k o a b L0 L M out x y (f:Int) F (accS mxE L C F i) (accS ttE L (fun i=>C i && decide (i<L0.length)) false i) (accS ttE L (fun i=>C i && !decide (i<L0.length)) false i) (i:Int) 0 F 0 x (accS moE L (fun i=>C i && decide (i<L0.length)) 0 i) y (accS moE L (fun i=>C i && !decide (i<L0.length)) 0 i)) r:=by
 intro d
 induction d with
 | zero =>
  intro i hd hi
  obtain rfl:i=L.length:=by omega
  exact hk
 | succ d ih =>
  intro i hd hi
  have hil:i<L.length:=by omega
  have key:=ih (i+1) (by omega) (by omega)
  have b1:=accS_mo L (fun i=>C i && decide (i<L0.length)) hB i
  have b2:=accS_mo L (fun i=>C i && !decide (i<L0.length)) hB i
  have bi:=hB i
  refine Ev.step (fun _=>r08_Regions.l2.eq_2 ..) ?_
  simp only [if_pos (show (i:Int)<(L.length:Int) by omega),if_pos (show 0≤(i:Int) by omega),if_pos (show (i:Int)<(M.length:Int) by omega),if_pos (show 0≤(f:Int) by omega),if_pos (show (f:Int)<(M.length:Int) by omega),rd_nat,rdT_nat,w_succ hil (show L.length≤4611686018427387904 by omega)]
  by_cases hc:C i=true
  rotate_left
  ·have hc':C i=false:=by simpa using hc
   simp only [if_neg (show ¬ va M i=va M f from fun h=>hc ((HM i hil).1 h))]
   simp only [accS,hc',Bool.false_and,Bool.false_eq_true,if_false] at key
   exact key
  have he:=hE i hc
  simp only [if_pos ((HM i hil).2 hc)]
  rw [w_in (x:=(edA L i).f0+(edA L i).f1) (by omega) (by omega)]
  simp only [accS,hc,Bool.true_and] at key
  by_cases h7:i<L0.length
  ·simp only [decide_eq_true h7,Bool.not_true,Bool.false_eq_true,if_true,if_false] at key
   simp only [if_pos (show (i:Int)<(L0.length:Int) by omega)]
   rw [w_in (x:=accS moE L (fun i=>C i && decide (i<L0.length)) 0 i+((edA L i).f2.length:Int)) (by omega) (by omega),w_in (by omega) (by omega)]
   exact key
  simp only [decide_eq_false h7,Bool.not_false,Bool.false_eq_true,if_true,if_false] at key
  simp only [if_neg (show ¬ (i:Int)<(L0.length:Int) by omega)]
  rw [w_in (x:=accS moE L (fun i=>C i && !decide (i<L0.length)) 0 i+((edA L i).f2.length:Int)) (by omega) (by omega),w_in (by omega) (by omega)]
  exact key
end Go.Proofs.Ytnmphfelebkaiaa.Pr
-- shrunk
/-
A cluster's end in the document's Regions: its region, and its edits marked as done.
-/
namespace Go.Proofs.Ytnmphfelebkaiaa.Pr
open Go.RowKit Go.Proofs.YtnmphfelebkaiaaW.PrintWords Go.Proofs.YtnmphfelebkaiaaW.PrintLast Go.Proofs.YtnmphfelebkaiaaW.PrintMore
theorem take_drop (l:List ByteArray) (x m:Nat):(l.take (x+m)).drop x=(l.drop x).take m:=by
 rw [List.drop_take,Nat.add_sub_cancel_left]
theorem l2_end {o a b:List ByteArray} {L0 L:List Ed} {M:List Int} {out:List S32} {x m y p:Nat} {F e A B:Int} {f:Nat} {one two:Bool} {r:List S32} (Hout:Aside0 (out.length<2513169434916)) (hf0:0≤F) (he:e≤1099511627776) (hFe:F≤e)
  (hA:A+e - F=(m:Int)) (hB:B+e - F=(p:Int)) (hx:x+m≤a.length) (hy:y+p≤b.length) (ha:a.length≤1099511627776) (hb:b.length≤1099511627776)
  (hk:Ev (fun k=>r08_Regions.l3 k o a b L0 L M (out++[⟨if one=false then 2 else if two=false then 1 else if (a.drop x).take m=(b.drop y).take p then 3 else 4,⟨F,e - F⟩,⟨(x:Int),(m:Int)⟩,⟨(y:Int),(p:Int)⟩⟩]) e ((x+m:Nat):Int) ((y+p:Nat):Int) (f:Int) 0) r) :
  Ev (fun k=>r08_Regions.l2 k o a b L0 L M out (x:Int) (y:Int) (f:Int) F e one two (L.length:Int) 0 F 0 (x:Int) A (y:Int) B) r:=by
 refine Ev.step (fun _=>r08_Regions.l2.eq_2 ..) ?_
 obtain ⟨X,hX⟩:∃ X:Int,X=((x+m:Nat):Int):=⟨_,rfl⟩
 obtain ⟨Y,hY⟩:∃ Y:Int,Y=((y+p:Nat):Int):=⟨_,rfl⟩
 have nX:X.toNat=x+m:=by omega
 have nY:Y.toNat=y+p:=by omega
 have c0:¬ (L.length:Int)<(L.length:Int):=by omega
 have c1:0≤(x:Int):=by omega
 have c2:(x:Int)≤X:=by omega
 have c3:X≤(a.length:Int):=by omega
 have c4:0≤(y:Int):=by omega
 have c5:(y:Int)≤Y:=by omega
 have c6:Y≤(b.length:Int):=by omega
 have hT:=Texts_ev ((a.drop x).take m) ((b.drop y).take p) (by rw [List.length_take];omega)
 have wA:wrap64 (wrap64 (A+e) - F)=(m:Int):=by rw [w_in (x:=A+e) (by omega) (by omega),hA,w_in (by omega) (by omega)]
 have wB:wrap64 (wrap64 (B+e) - F)=(p:Int):=by rw [w_in (x:=B+e) (by omega) (by omega),hB,w_in (by omega) (by omega)]
 have wx:wrap64 ((x:Int)+(m:Int))=((x+m:Nat):Int):=by rw [w_in (by omega) (by omega)];omega
 have wy:wrap64 ((y:Int)+(p:Int))=((y+p:Nat):Int):=by rw [w_in (by omega) (by omega)];omega
 have wO:wrap64 (e - F)=e - F:=w_in (by omega) (by omega)
 rw [← hX] at wx hk
 rw [← hY] at wy hk
 simp only [if_neg c0]
 simp only [wA,wB,wx,wy,wO]
 simp only [if_pos c1,if_pos c2,if_pos c3,if_pos c4,if_pos c5,if_pos c6]
 simp only [Int.toNat_natCast,nX,nY,take_drop]
 refine Ev.bind hT ?_
 have j7:∀ kd,Ev (fun k=>r08_Regions.l3 k o a b L0 L M (out++[⟨kd,⟨F,e - F⟩,⟨(x:Int),(m:Int)⟩,⟨(y:Int),(p:Int)⟩⟩]) e X Y (f:Int) 0) r→Ev (fun k=>r08_Regions.j7 k o a b L0 L M out (x:Int) (y:Int) (f:Int) e kd F (e - F) (x:Int) (m:Int) (y:Int) (p:Int)) r:=by
  intro kd h
  refine Ev.step (fun _=>r08_Regions.j7.eq_2 ..) ?_
  simp only [if_pos Hout.out,wx,wy]
  exact h
 have j6:∀ kd,Ev (fun k=>r08_Regions.l3 k o a b L0 L M (out++[⟨if one=false then 2 else kd,⟨F,e - F⟩,⟨(x:Int),(m:Int)⟩,⟨(y:Int),(p:Int)⟩⟩]) e X Y (f:Int) 0) r→Ev (fun k=>r08_Regions.j6 k o a b L0 L M out (x:Int) (y:Int) (f:Int) e one kd F (e - F) (x:Int) (m:Int) (y:Int) (p:Int)) r:=by
  intro kd h
  refine Ev.step (fun _=>r08_Regions.j6.eq_2 ..) ?_
  cases one with
  | false=>simp only [Bool.false_eq_true,if_false];exact j7 _ h
  | true=>simp only [if_true];exact j7 _ h
 have j5:∀ kd,Ev (fun k=>r08_Regions.l3 k o a b L0 L M (out++[⟨if one=false then 2 else if two=false then 1 else kd,⟨F,e - F⟩,⟨(x:Int),(m:Int)⟩,⟨(y:Int),(p:Int)⟩⟩]) e X Y (f:Int) 0) r→Ev (fun k=>r08_Regions.j5 k o a b L0 L M out (x:Int) (y:Int) (f:Int) e one two kd F (e - F) (x:Int) (m:Int) (y:Int) (p:Int)) r:=by
  intro kd h
  refine Ev.step (fun _=>r08_Regions.j5.eq_2 ..) ?_
  cases two with
  | false=>simp only [Bool.false_eq_true,if_false];exact j6 _ h
  | true=>simp only [if_true];exact j6 _ h
 by_cases hq:(a.drop x).take m=(b.drop y).take p
 ·simp only [decide_eq_true hq,if_true]
  rw [if_pos hq] at hk
  exact j5 _ hk
 simp only [decide_eq_false hq,Bool.false_eq_true,if_false]
 rw [if_neg hq] at hk
 exact j5 _ hk
theorem edA_set (L:List Ed) (i j:Nat) (e:Ed) (hi:i<L.length):edA (L.set i e) j=if i=j then e else edA L j:=by
 unfold edA
 rw [List.getD_eq_getElem?_getD,List.getD_eq_getElem?_getD,List.getElem?_set]
 by_cases h:i=j
 ·subst h;simp [hi]
 simp [h]
theorem l3_ev {o a b:List ByteArray} {L0 L:List Ed} {M:List Int} {out:List S32} {t x y:Int} {f:Nat} {C:Nat→Bool} {r:List S32} (hn:L.length≤1048576) (hM:M.length=L.length) (hf:f<L.length) (HM:∀ i,i<L.length→(va M i=va M f ↔ C i=true))
  (hk:∀ L',L'.length=L.length→(∀ j,edA L' j=if C j=true∧j<L.length∧j≠f then negE (edA L j) else edA L j)→Ev (fun k=>r08_Regions.l0 k o a b L0 (L'.set f (negE (edA L' f))) M out t x y) r) :
  ∀ d i L',L.length - i=d→i≤L.length→L'.length=L.length→(∀ j,edA L' j=if C j=true∧j<i∧j≠f then negE (edA L j) else edA L j)→Ev (fun k=>r08_Regions.l3 k o a b L0 L' M out t x y (f:Int) (i:Int)) r:=by
 intro d
 induction d with
 | zero =>
  intro i L' hd hi hl hL
  obtain rfl:i=L.length:=by omega
  refine Ev.step (fun _=>r08_Regions.l3.eq_2 ..) ?_
  simp only [if_neg (show ¬ (L.length:Int)<(L'.length:Int) by omega),if_pos (show 0≤(f:Int) by omega),if_pos (show (f:Int)<(L'.length:Int) by omega),rdT_nat,Int.toNat_natCast]
  exact hk L' hl hL
 | succ d ih =>
  intro i L' hd hi hl hL
  have hil:i<L.length:=by omega
  have hw:wrap64 ((i:Int)+1)=((i+1:Nat):Int):=w_succ hil (by omega)
  refine Ev.step (fun _=>r08_Regions.l3.eq_2 ..) ?_
  simp only [if_pos (show (i:Int)<(L'.length:Int) by omega),if_pos (show 0≤(i:Int) by omega),if_pos (show (i:Int)<(M.length:Int) by omega),if_pos (show 0≤(f:Int) by omega),if_pos (show (f:Int)<(M.length:Int) by omega),rd_nat,rdT_nat,Int.toNat_natCast,hw]
  by_cases hc:C i=true
  rotate_left
  ·simp only [if_neg (show ¬ va M i=va M f from fun h=>hc ((HM i hil).1 h))]
   refine ih (i+1) L' (by omega) (by omega) hl fun j=>?_
   rw [hL j]
   by_cases h1:C j=true∧j<i∧j≠f
   ·rw [if_pos h1,if_pos ⟨h1.1,by omega,h1.2.2⟩]
   rw [if_neg h1,if_neg (fun h=>by
    by_cases e:j=i
    ·rw [e] at h;exact hc h.1
    exact h1 ⟨h.1,by omega,h.2.2⟩)]
  simp only [if_pos ((HM i hil).2 hc)]
  by_cases he:i=f
  ·subst he
   simp only [if_true]
   refine ih (i+1) L' (by omega) (by omega) hl fun j=>?_
   rw [hL j]
   by_cases h1:C j=true∧j<i∧j≠i
   ·rw [if_pos h1,if_pos ⟨h1.1,by omega,h1.2.2⟩]
   rw [if_neg h1,if_neg (fun h=>h1 ⟨h.1,by omega,h.2.2⟩)]
  simp only [if_neg (show ¬ (i:Int)=(f:Int) by omega)]
  refine ih (i+1) _ (by omega) (by omega) (by rw [List.length_set,hl]) fun j=>?_
  rw [edA_set _ _ _ _ (by omega)]
  by_cases hij:i=j
  ·subst hij
   have e:edA L' i=edA L i:=by rw [hL i,if_neg (fun h=>by omega)]
   rw [if_pos rfl,if_pos ⟨hc,by omega,he⟩,e]
   rfl
  rw [if_neg hij,hL j]
  by_cases h1:C j=true∧j<i∧j≠f
  ·rw [if_pos h1,if_pos ⟨h1.1,by omega,h1.2.2⟩]
  rw [if_neg h1,if_neg (fun h=>h1 ⟨h.1,by omega,h.2.2⟩)]
end Go.Proofs.Ytnmphfelebkaiaa.Pr
-- shrunk
/-
The document's Regions answers regionsP.
-/
namespace Go.Proofs.Ytnmphfelebkaiaa.Pr
open Go.RowKit Go.Proofs.YtnmphfelebkaiaaW.PrintWords Go.Proofs.YtnmphfelebkaiaaW.PrintLast Go.Proofs.YtnmphfelebkaiaaW.PrintMore
theorem edA_left {L0 L1:List Ed} {k:Nat} (h:k<L0.length):edA (L0++L1) k=edA L0 k:=by
 unfold edA
 rw [List.getD_eq_getElem?_getD,List.getD_eq_getElem?_getD,List.getElem?_append_left h]
theorem edA_right (L0 L1:List Ed) (k:Nat):edA (L0++L1) (L0.length+k)=edA L1 k:=by
 unfold edA
 rw [List.getD_eq_getElem?_getD,List.getD_eq_getElem?_getD,List.getElem?_append_right (by omega),Nat.add_sub_cancel_left]
theorem edA_drop (L:List Ed) (i k:Nat):edA (L.drop i) k=edA L (i+k):=by
 unfold edA
 rw [List.getD_eq_getElem?_getD,List.getD_eq_getElem?_getD,List.getElem?_drop]
theorem edA_take (L:List Ed) (i k:Nat) (h:k<i):edA (L.take i) k=edA L k:=by
 unfold edA
 rw [List.getD_eq_getElem?_getD,List.getD_eq_getElem?_getD,List.getElem?_take_of_lt h]
theorem edA_mem {L:List Ed} {k:Nat} (h:k<L.length):edA L k ∈ L:=by
 unfold edA
 rw [List.getD_eq_getElem?_getD,List.getElem?_eq_getElem h,Option.getD_some]
 exact List.getElem_mem h
theorem mem_edA {L:List Ed} {e:Ed} (h:e ∈ L):∃ k,k<L.length∧edA L k=e:=by
 obtain ⟨k,hk,he⟩:=List.mem_iff_getElem.1 h
 refine ⟨k,hk,?_⟩
 unfold edA
 rw [List.getD_eq_getElem?_getD,List.getElem?_eq_getElem hk,Option.getD_some,he]
structure Doc (o a b:List ByteArray) (L0 L1:List Ed):Prop where
 lo:o.length≤1048576
 la:a.length≤1048576
 lb:b.length≤1048576
 n:(L0++L1).length≤1048576
 bnd:∀ k,0≤(edA (L0++L1) k).f0∧0≤(edA (L0++L1) k).f1∧(edA (L0++L1) k).f0+(edA (L0++L1) k).f1≤(o.length:Int)∧(edA (L0++L1) k).f2.length≤1099511627776
structure Sw (o a b:List ByteArray) (L0 L1 L:List Ed) (s:Rs) (i0 j0 t x y:Nat):Prop where
 hi:i0≤L0.length
 hj:j0≤L1.length
 len:L.length=(L0++L1).length
 at_:∀ k,edA L k=if inT 0 i0 L0.length (L0.length+j0) k=true then negE (edA (L0++L1) k) else edA (L0++L1) k
 J:∀ i k,inT 0 i0 L0.length (L0.length+j0) i=true→k<(L0++L1).length→inT 0 i0 L0.length (L0.length+j0) k=false→(edA (L0++L1) i).f0+(edA (L0++L1) i).f1<(edA (L0++L1) k).f0
 inv:Inv o a b s (L0.drop i0) (L1.drop j0) t x y
 few:s.out.length+2 * ((L0.drop i0).length+(L1.drop j0).length)≤4194304
structure Clus (o a b:List ByteArray) (L0 L1 L:List Ed) (s:Rs) (i0 j0 t x y:Nat) (c:Cl) (a' b' f x1 y1 t2 x2 y2:Nat):Prop where
 R:Rnd o a b s (L0.drop i0) (L1.drop j0) t x y c ((L0.drop i0).drop a') ((L1.drop j0).drop b') ((L0.drop i0).take a') ((L1.drop j0).take b') f x1 y1 t2 x2 y2
 ha:a'≤(L0.drop i0).length
 hb:b'≤(L1.drop j0).length
 low:∀ k,k<(L0++L1).length→inT 0 i0 L0.length (L0.length+j0) k=false→(f:Int)≤(edA (L0++L1) k).f0
 ends:∀ k,inT i0 (i0+a') (L0.length+j0) (L0.length+j0+b') k=true→k<(L0++L1).length∧inT 0 i0 L0.length (L0.length+j0) k=false∧(edA (L0++L1) k).f0+(edA (L0++L1) k).f1≤(t2:Int)
 far:∀ k,k<(L0++L1).length→inT 0 i0 L0.length (L0.length+j0) k=false→inT i0 (i0+a') (L0.length+j0) (L0.length+j0+b') k=false→(t2:Int)<(edA (L0++L1) k).f0
 closed:Closed (L0++L1) (inT i0 (i0+a') (L0.length+j0) (L0.length+j0+b'))
 hang:Hang (L0++L1) (inT i0 (i0+a') (L0.length+j0) (L0.length+j0+b'))
 heads:∃ k,k<(L0++L1).length∧inT 0 i0 L0.length (L0.length+j0) k=false∧(edA (L0++L1) k).f0=(f:Int)
theorem inT_no {is i js j x:Nat}:inT is i js j x=false ↔ ¬ ((is≤x∧x<i)∨(js≤x∧x<j)):=by
 rw [← inT_iff];simp
theorem left_at {L0 L1:List Ed} {i0 j0 k:Nat} (hi:i0≤L0.length) (hj:j0≤L1.length) (hk:k<(L0++L1).length) (hd:inT 0 i0 L0.length (L0.length+j0) k=false) :
  (∃ m,k=i0+m∧m<(L0.drop i0).length∧edA (L0++L1) k=edA (L0.drop i0) m)∨(∃ m,k=L0.length+j0+m∧m<(L1.drop j0).length∧edA (L0++L1) k=edA (L1.drop j0) m):=by
 rw [inT_no] at hd
 rw [List.length_append] at hk
 by_cases h:k<L0.length
 ·refine .inl ⟨k - i0,by omega,by rw [List.length_drop];omega,?_⟩
  rw [edA_drop,edA_left h,show i0+(k - i0)=k by omega]
 refine .inr ⟨k - (L0.length+j0),by omega,by rw [List.length_drop];omega,?_⟩
 rw [edA_drop,show j0+(k - (L0.length+j0))=k - L0.length by omega,← edA_right L0 L1,show L0.length+(k - L0.length)=k by omega]
theorem at_left {L0 L1:List Ed} {i0 m:Nat} (h:m<(L0.drop i0).length):edA (L0++L1) (i0+m)=edA (L0.drop i0) m:=by
 rw [List.length_drop] at h
 rw [edA_drop,edA_left (by omega)]
theorem at_right {L0 L1:List Ed} {j0 m:Nat}:edA (L0++L1) (L0.length+j0+m)=edA (L1.drop j0) m:=by
 rw [edA_drop,Nat.add_assoc,edA_right]
theorem head_at {l0 l1:List Ed} {f:Int} (hl:0<l0.length+l1.length) (hf:(startC l0 l1).f=f):(0<l0.length∧(edA l0 0).f0=f)∨(0<l1.length∧(edA l1 0).f0=f):=by
 cases hs:side1 l0 l1 with
 | true =>
  have e:(startC l0 l1).f=(hdE l1).f0:=by simp only [startC,if_pos hs]
  simp only [side1,Bool.or_eq_true,Bool.and_eq_true,decide_eq_true_eq] at hs
  exact .inr ⟨by omega,by rw [← hf,e];rfl⟩
 | false =>
  have e:(startC l0 l1).f=(hdE l0).f0:=by simp only [startC,hs];rfl
  simp only [side1,Bool.or_eq_false_iff,Bool.and_eq_false_iff,decide_eq_false_iff_not] at hs
  exact .inl ⟨by omega,by rw [← hf,e];rfl⟩
theorem Sw.clus {o a b:List ByteArray} {L0 L1 L:List Ed} {s:Rs} {i0 j0 t x y:Nat} (D:Doc o a b L0 L1) (h:Sw o a b L0 L1 L s i0 j0 t x y) (hl:0<(L0.drop i0).length+(L1.drop j0).length) :
  ∃ a' b' f x1 y1 t2 x2 y2,Clus o a b L0 L1 L s i0 j0 t x y (absorb (startC (L0.drop i0) (L1.drop j0)) (L0.drop i0) (L1.drop j0)).1 a' b' f x1 y1 t2 x2 y2 ∧
   (absorb (startC (L0.drop i0) (L1.drop j0)) (L0.drop i0) (L1.drop j0)).2.1=L0.drop (i0+a')∧(absorb (startC (L0.drop i0) (L1.drop j0)) (L0.drop i0) (L1.drop j0)).2.2=L1.drop (j0+b'):=by
 obtain ⟨p0,p1,f,x1,y1,t2,x2,y2,R⟩:=h.inv.round hl
 have hi:=h.hi
 have hj:=h.hj
 have ld0:(L0.drop i0).length=L0.length - i0:=List.length_drop ..
 have ld1:(L1.drop j0).length=L1.length - j0:=List.length_drop ..
 have hsf:(startC (L0.drop i0) (L1.drop j0)).f=(f:Int):=by rw [← R.ate.f];exact R.cf
 have hst:(startC (L0.drop i0) (L1.drop j0)).t=(startC (L0.drop i0) (L1.drop j0)).f:=rfl
 obtain ⟨a',b',e0,e1,ha,hb,hcf,htie⟩:=absorb_tie (L0++L1) i0 (L0.length+j0) _ (L0.drop i0) (L1.drop j0) (startC (L0.drop i0) (L1.drop j0)) i0 (L0.length+j0) rfl (Nat.le_refl _) (Nat.le_refl _) (by omega)
  (fun m hm=>at_left hm) (fun m hm=>at_right) (fun e he=>by have:=okFrom_mem R.f0 e he;rw [hsf];omega) (fun e he=>by have:=okFrom_mem R.f1 e he;rw [hsf];omega)
  ⟨.inl ⟨fun i=>by rw [inT_iff];omega,hst⟩,fun S i k h1=>by rw [inT_iff] at h1;omega⟩
 have hp0:p0=(L0.drop i0).take a':=by
  have h1:=R.ate.e0
  rw [e0] at h1
  have h2:=congrArg List.length h1
  simp only [List.length_append,List.length_drop] at h2
  have h3:p0.length=a':=by omega
  rw [h1,← h3,List.take_left]
 have hp1:p1=(L1.drop j0).take b':=by
  have h1:=R.ate.e1
  rw [e1] at h1
  have h2:=congrArg List.length h1
  simp only [List.length_append,List.length_drop] at h2
  have h3:p1.length=b':=by omega
  rw [h1,← h3,List.take_left]
 subst hp0 hp1
 rw [e0,e1] at R
 have hct:=R.ct
 have low:∀ k,k<(L0++L1).length→inT 0 i0 L0.length (L0.length+j0) k=false→(f:Int)≤(edA (L0++L1) k).f0:=by
  intro k hk hd
  rcases left_at hi hj hk hd with ⟨m,_,hm,he⟩|⟨m,_,hm,he⟩
  ·rw [he];exact (okFrom_mem R.f0 _ (edA_mem hm)).1
  rw [he];exact (okFrom_mem R.f1 _ (edA_mem hm)).1
 have ends:∀ k,inT i0 (i0+a') (L0.length+j0) (L0.length+j0+b') k=true→k<(L0++L1).length∧inT 0 i0 L0.length (L0.length+j0) k=false∧(edA (L0++L1) k).f0+(edA (L0++L1) k).f1≤(t2:Int):=by
  intro k hk
  rw [inT_iff] at hk
  rw [List.length_append,inT_no]
  refine ⟨by omega,by omega,?_⟩
  rw [← hct]
  rcases hk with ⟨h1,h2⟩|⟨h1,h2⟩
  ·obtain ⟨m,rfl⟩:∃ m,k=i0+m:=⟨k - i0,by omega⟩
   rw [at_left (by omega),← edA_take _ a' m (by omega)]
   exact R.ate.n0 _ (edA_mem (by rw [List.length_take];omega))
  obtain ⟨m,rfl⟩:∃ m,k=L0.length+j0+m:=⟨k - (L0.length+j0),by omega⟩
  rw [at_right,← edA_take _ b' m (by omega)]
  exact R.ate.n1 _ (edA_mem (by rw [List.length_take];omega))
 have far:∀ k,k<(L0++L1).length→inT 0 i0 L0.length (L0.length+j0) k=false→inT i0 (i0+a') (L0.length+j0) (L0.length+j0+b') k=false→(t2:Int)<(edA (L0++L1) k).f0:=by
  intro k hk hd hc
  rw [inT_no] at hc
  rcases left_at hi hj hk hd with ⟨m,hkm,hm,he⟩|⟨m,hkm,hm,he⟩
  ·have h1:=(okFrom_mem R.k0 (edA ((L0.drop i0).drop a') (m - a')) (edA_mem (by rw [List.length_drop];omega))).1
   rw [edA_drop,show a'+(m - a')=m by omega] at h1
   rw [he];omega
  have h1:=(okFrom_mem R.k1 (edA ((L1.drop j0).drop b') (m - b')) (edA_mem (by rw [List.length_drop];omega))).1
  rw [edA_drop,show b'+(m - b')=m by omega] at h1
  rw [he];omega
 have apart:∀ i k,i<(L0++L1).length→k<(L0++L1).length→inT i0 (i0+a') (L0.length+j0) (L0.length+j0+b') i=true→inT i0 (i0+a') (L0.length+j0) (L0.length+j0+b') k=false→meetP (edA (L0++L1) i) (edA (L0++L1) k)=true→False:=by
  intro i k hi' hk' ci ck hm
  rw [meetP,Bool.and_eq_true,decide_eq_true_eq,decide_eq_true_eq] at hm
  obtain ⟨q1,q2,q3⟩:=ends i ci
  cases hd:inT 0 i0 L0.length (L0.length+j0) k with
  | true =>
   have:=h.J k i hd hi' q2
   omega
  | false =>
   have:=far k hk' hd ck
   omega
 refine ⟨a',b',f,x1,y1,t2,x2,y2,⟨R,ha,hb,low,ends,far,?_,?_,?_⟩,by rw [e0,List.drop_drop],by rw [e1,List.drop_drop]⟩
 ·intro i k hi' hk' hm
  cases ci:inT i0 (i0+a') (L0.length+j0) (L0.length+j0+b') i with
  | true =>
   cases ck:inT i0 (i0+a') (L0.length+j0) (L0.length+j0+b') k with
   | true=>rfl
   | false=>exact (apart i k hi' hk' ci ck hm).elim
  | false =>
   cases ck:inT i0 (i0+a') (L0.length+j0) (L0.length+j0+b') k with
   | true=>exact (apart k i hk' hi' ck ci (by rw [meetP_comm];exact hm)).elim
   | false=>rfl
 ·intro S i k hi' hk' ci ck si sk
  obtain ⟨u,v,u1,v1,u2,v2,m⟩:=htie.hang S i k ci ck si sk
  exact ⟨u,v,(ends u u1).1,(ends v v1).1,u1,v1,u2,v2,m⟩
 rcases head_at hl hsf with ⟨h1,h2⟩|⟨h1,h2⟩
 ·exact ⟨i0+0,by rw [List.length_append];omega,by rw [inT_no];omega,by rw [at_left h1];exact h2⟩
 exact ⟨L0.length+j0+0,by rw [List.length_append];omega,by rw [inT_no];omega,by rw [at_right];exact h2⟩
end Go.Proofs.Ytnmphfelebkaiaa.Pr
-- shrunk
/-
The document's Regions answers regionsP: its sweep, cluster by cluster.
-/
namespace Go.Proofs.Ytnmphfelebkaiaa.Pr
open Go.RowKit Go.Proofs.YtnmphfelebkaiaaW.PrintWords Go.Proofs.YtnmphfelebkaiaaW.PrintLast Go.Proofs.YtnmphfelebkaiaaW.PrintMore
theorem Sw.bnd {o a b:List ByteArray} {L0 L1 L:List Ed} {s:Rs} {i0 j0 t x y:Nat} (D:Doc o a b L0 L1) (h:Sw o a b L0 L1 L s i0 j0 t x y) (k:Nat):(edA L k).f0≤(o.length:Int)∧0≤(edA L k).f1∧(edA L k).f1≤1099511627776∧(edA L k).f2.length≤1099511627776:=by
 have hb:=D.bnd k
 have hl:=D.lo
 rw [h.at_ k]
 split
 ·simp only [negE];omega
 omega
theorem Sw.first {o a b:List ByteArray} {L0 L1 L:List Ed} {s:Rs} {i0 j0 t x y:Nat} {c:Cl} {a' b' f x1 y1 t2 x2 y2:Nat} (h:Sw o a b L0 L1 L s i0 j0 t x y) (K:Clus o a b L0 L1 L s i0 j0 t x y c a' b' f x1 y1 t2 x2 y2) {first from_:Int} (hF:First L (t:Int) o.length L.length first from_) :
  ∃ g:Nat,first=(g:Int)∧from_=(f:Int)∧g<(L0++L1).length∧inT i0 (i0+a') (L0.length+j0) (L0.length+j0+b') g=true:=by
 obtain ⟨k,k1,k2,k3⟩:=K.heads
 have hl:=h.len
 have tf:=K.R.tf
 have ft:=K.R.ft
 have ek:edA L k=edA (L0++L1) k:=by rw [h.at_ k,k2];rfl
 rcases hF with ⟨h1,h2,h3⟩|⟨g,h1,h2,h3,h4,h5⟩
 ·have:=h3 k (by omega)
  rw [ek] at this
  omega
 have hd:inT 0 i0 L0.length (L0.length+j0) g=false:=by
  cases hg:inT 0 i0 L0.length (L0.length+j0) g with
  | false=>rfl
  | true =>
   have:(edA L g).f0 = -1:=by rw [h.at_ g,hg];rfl
   omega
 have eg:edA L g=edA (L0++L1) g:=by rw [h.at_ g,hd];rfl
 have q1:=K.low g (by omega) hd
 have q2:=h5 k (by omega) (by rw [ek];omega)
 rw [ek,k3] at q2
 rw [eg] at h3
 have hf:from_=(f:Int):=by omega
 refine ⟨g,h2,hf,by omega,?_⟩
 cases hc:inT i0 (i0+a') (L0.length+j0) (L0.length+j0+b') g with
 | true=>rfl
 | false =>
  have:=K.far g (by omega) hd hc
  omega
theorem isEmpty_ne {α:Type} {p:List α}:(!p.isEmpty)=true ↔ p≠[]:=by cases p<;>simp
theorem w_over (n:Nat) (h:n≤1048576):wrap64 ((n:Int)+1)=(n:Int)+1:=w_in (by omega) (by omega)
set_option maxHeartbeats 1000000 in
theorem sweep {o a b:List ByteArray} {L0 L1:List Ed} (D:Doc o a b L0 L1):∀ (m:Nat) (s:Rs) (i0 j0:Nat) (L:List Ed) (t x y:Nat),(L0.drop i0).length+(L1.drop j0).length=m→Sw o a b L0 L1 L s i0 j0 t x y →
  Ev (fun k=>r08_Regions.l0 k o a b L0 L (marksM (L0++L1)) s.out (t:Int) (x:Int) (y:Int)) (endR o.length ((clusters (L0.drop i0) (L1.drop j0)).foldl (stepR a b) s)):=by
 intro m
 induction m using Nat.strongRecOn with
 | _ m ih =>
 intro s i0 j0 L t x y hm h
 have hlo:=D.lo
 have hla:=D.la
 have hlb:=D.lb
 have hn:=D.n
 have hi:=h.hi
 have hj:=h.hj
 have hlen:=h.len
 have hto:=h.inv.A.ht
 have hxa:=h.inv.A.hx
 have hyb:=h.inv.B.hx
 have hfew:=h.few
 have ld0:(L0.drop i0).length=L0.length - i0:=List.length_drop ..
 have ld1:(L1.drop j0).length=L1.length - j0:=List.length_drop ..
 have hll:(L0++L1).length=L0.length+L1.length:=List.length_append ..
 refine Ev.step (fun _=>r08_Regions.l0.eq_2 ..) ?_
 have wo:=w_over o.length hlo
 have hto':(t:Int)≤(o.length:Int):=Int.ofNat_le.2 hto
 simp only [wo]
 simp only [if_pos hto']
 clear wo hto'
 refine l1_ev (by omega) (fun k=>(h.bnd D k).1) (fun first from_ hF=>?_) _ 0 _ _ rfl (by omega) (.inl ⟨rfl,rfl,fun k hk=>by omega⟩)
 rcases Nat.eq_zero_or_pos ((L0.drop i0).length+(L1.drop j0).length) with hz|hz
 ·-- none is left
  have z0:L0.drop i0=[]:=List.length_eq_zero_iff.1 (by omega)
  have z1:L1.drop j0=[]:=List.length_eq_zero_iff.1 (by omega)
  have hall:∀ k,k<L.length→(edA L k).f0 = -1:=by
   intro k hk
   have:inT 0 i0 L0.length (L0.length+j0) k=true:=by rw [inT_iff];omega
   rw [h.at_ k,this];rfl
  have hff:first = -1∧from_=(o.length:Int)+1:=by
   rcases hF with ⟨h1,h2,h3⟩|⟨g,h1,h2,h3,h4,h5⟩
   ·exact ⟨h1,h2⟩
   have:=hall g h1;omega
  obtain ⟨rfl,rfl⟩:=hff
  rw [clusters_nil hz,List.foldl_nil]
  have hmn:mn ((o.length:Int)+1) (o.length:Int)=(o.length:Int):=by unfold mn;rw [if_pos (by omega)]
  refine j2_ev (by omega) (by omega) (by omega) (by omega) (by omega) (fun h1 h2=>?_) (fun h1=>?_)
  ·refine Ev.step (fun _=>r08_Regions.j3.eq_2 ..) ?_
   simp only [if_pos (show (-1:Int)<0 by omega),hmn]
   have e:endR o.length s=s.out++[⟨0,⟨(t:Int),(o.length:Int) - (t:Int)⟩,⟨(x:Int),(o.length:Int) - (t:Int)⟩,⟨(y:Int),(o.length:Int) - (t:Int)⟩⟩]:=by
    rw [endR,h.inv.at_,if_pos h2,addR,h.inv.so,h.inv.sa,h.inv.sb,Int.add_zero]
   rw [e]
   exact Ev.now _
  refine Ev.step (fun _=>r08_Regions.j3.eq_2 ..) ?_
  simp only [if_pos (show (-1:Int)<0 by omega)]
  have e:endR o.length s=s.out:=by
   rw [endR,h.inv.at_,if_neg (by omega)]
  rw [e]
  exact Ev.now _
 obtain ⟨a',b',f,x1,y1,t2,x2,y2,K,e0,e1⟩:=h.clus D hz
 obtain ⟨g,rfl,rfl,hg,hcg⟩:=h.first K hF
 have R:=K.R
 have hgap:=R.gapped h.inv
 have hstep:=R.step h.inv
 have hinv:=R.inv h.inv
 have hless:=R.less
 rw [List.drop_drop,List.drop_drop] at hless hinv
 have i1:=R.A2.ht
 have i2:=R.A2.hx
 have i3:=R.B2.hx
 have lx:=R.lx
 have ly:=R.ly
 have ft:=R.ft
 have tf:=R.tf
 have ex1:=R.ex1
 have ey1:=R.ey1
 have ex2:=R.ex2
 have ey2:=R.ey2
 have hka:=K.ha
 have hkb:=K.hb
 have hslen:=step_len a b s (absorb (startC (L0.drop i0) (L1.drop j0)) (L0.drop i0) (L1.drop j0)).1
 have hglen:=gap_len s (absorb (startC (L0.drop i0) (L1.drop j0)) (L0.drop i0) (L1.drop j0)).1
 have hmarks:=fun k hk=>marks_set K.closed K.hang hg (k:=k) hk hcg
 have HM:∀ k,k<L.length→(va (marksM (L0++L1)) k=va (marksM (L0++L1)) g ↔ inT i0 (i0+a') (L0.length+j0) (L0.length+j0+b') k=true):=fun k hk=>(hmarks k (by omega)).1
 have hMl:(marksM (L0++L1)).length=L.length:=by rw [(hmarks g hg).2,hlen]
 have eC:∀ k,inT i0 (i0+a') (L0.length+j0) (L0.length+j0+b') k=true→edA L k=edA (L0++L1) k:=by
  intro k hk
  rw [h.at_ k,(K.ends k hk).2.1];rfl
 have d0:((L0.drop i0).take a').length=a':=by rw [List.length_take];omega
 have d1:((L1.drop j0).take b').length=b':=by rw [List.length_take];omega
 have p0at:∀ k,k<((L0.drop i0).take a').length→edA L (i0+k)=edA ((L0.drop i0).take a') k:=by
  intro k hk
  rw [eC _ (by rw [inT_iff];omega),at_left (by omega),edA_take _ _ _ (by omega)]
 have p1at:∀ k,k<((L1.drop j0).take b').length→edA L (L0.length+j0+k)=edA ((L1.drop j0).take b') k:=by
  intro k hk
  rw [eC _ (by rw [inT_iff];omega),at_right,edA_take _ _ _ (by omega)]
 have D0:∀ i,(inT i0 (i0+a') (L0.length+j0) (L0.length+j0+b') i && decide (i<L0.length))=true ↔ i0≤i∧i<i0+((L0.drop i0).take a').length:=by
  intro i
  rw [Bool.and_eq_true,inT_iff,decide_eq_true_eq,d0];omega
 have D1:∀ i,(inT i0 (i0+a') (L0.length+j0) (L0.length+j0+b') i && !decide (i<L0.length))=true ↔ L0.length+j0≤i∧i<L0.length+j0+((L1.drop j0).take b').length:=by
  intro i
  rw [Bool.and_eq_true,inT_iff,Bool.not_eq_true',decide_eq_false_iff_not,d1];omega
 have sA:accS moE L (fun i=>inT i0 (i0+a') (L0.length+j0) (L0.length+j0+b') i && decide (i<L0.length)) 0 L.length=moreE ((L0.drop i0).take a'):=by
  rw [accS_seg moE L _ 0 _ i0 D0 p0at,List.take_of_length_le (by omega),foldl_mo];omega
 have sB:accS moE L (fun i=>inT i0 (i0+a') (L0.length+j0) (L0.length+j0+b') i && !decide (i<L0.length)) 0 L.length=moreE ((L1.drop j0).take b'):=by
  rw [accS_seg moE L _ 0 _ _ D1 p1at,List.take_of_length_le (by omega),foldl_mo];omega
 have oA:accS ttE L (fun i=>inT i0 (i0+a') (L0.length+j0) (L0.length+j0+b') i && decide (i<L0.length)) false L.length=!((L0.drop i0).take a').isEmpty:=by
  rw [accS_seg ttE L _ false _ i0 D0 p0at,List.take_of_length_le (by omega),foldl_tt,Bool.false_or]
 have oB:accS ttE L (fun i=>inT i0 (i0+a') (L0.length+j0) (L0.length+j0+b') i && !decide (i<L0.length)) false L.length=!((L1.drop j0).take b').isEmpty:=by
  rw [accS_seg ttE L _ false _ _ D1 p1at,List.take_of_length_le (by omega),foldl_tt,Bool.false_or]
 have hE:∀ i,inT i0 (i0+a') (L0.length+j0) (L0.length+j0+b') i=true→0≤(edA L i).f0∧(edA L i).f0+(edA L i).f1≤(t2:Int):=by
  intro i hi'
  rw [eC i hi']
  exact ⟨(D.bnd i).1,(K.ends i hi').2.2⟩
 obtain ⟨m1,m2,m3⟩:=accS_mx L (inT i0 (i0+a') (L0.length+j0) (L0.length+j0+b')) (f:Int) (t2:Int) (by omega) (fun i hi'=>(hE i hi').2) L.length
 have eE:accS mxE L (inT i0 (i0+a') (L0.length+j0) (L0.length+j0+b')) (f:Int) L.length=(t2:Int):=by
  refine Int.le_antisymm m2 ?_
  rw [← R.ct]
  refine R.ate.top _ ?_ (fun e he=>?_) (fun e he=>?_)
  ·have:(startC (L0.drop i0) (L1.drop j0)).t=(f:Int):=by rw [← R.cf,R.ate.f];rfl
   rw [this];exact m1
  ·obtain ⟨k,hk,rfl⟩:=mem_edA he
   rw [← p0at k hk]
   exact m3 _ (by omega) (by rw [inT_iff];omega)
  obtain ⟨k,hk,rfl⟩:=mem_edA he
  rw [← p1at k hk]
  exact m3 _ (by omega) (by rw [inT_iff];omega)
 rw [clusters_cons hz,List.foldl_cons,e0,e1]
 have ekind:(if (!((L0.drop i0).take a').isEmpty)=false then (2:Int) else if (!((L1.drop j0).take b').isEmpty)=false then 1 else if (a.drop x1).take (x2 - x1)=(b.drop y1).take (y2 - y1) then 3 else 4)=kindP (absorb (startC (L0.drop i0) (L1.drop j0)) (L0.drop i0) (L1.drop j0)).1 ((a.drop x1).take (x2 - x1)) ((b.drop y1).take (y2 - y1)):=by
  unfold kindP
  rw [R.h0,R.h1]
  have hso:=R.some_
  rw [← isEmpty_ne,← isEmpty_ne] at hso
  generalize (!((L0.drop i0).take a').isEmpty)=u at hso ⊢
  generalize (!((L1.drop j0).take b').isEmpty)=v at hso ⊢
  cases u<;>cases v<;>simp_all
 -- the region of the cluster, and its edits done
 have body:∀ out',out'=(gapR s (absorb (startC (L0.drop i0) (L1.drop j0)) (L0.drop i0) (L1.drop j0)).1).out→Ev (fun k=>r08_Regions.j3 k o a b L0 L (marksM (L0++L1)) out' (x1:Int) (y1:Int) (g:Int) (f:Int)) (endR o.length (List.foldl (stepR a b) (stepR a b s (absorb (startC (L0.drop i0) (L1.drop j0)) (L0.drop i0) (L1.drop j0)).1) (clusters (L0.drop (i0+a')) (L1.drop (j0+b'))))):=by
  intro out' hout'
  have hol:out'.length≤4194304:=by rw [hout'];omega
  refine Ev.step (fun _=>r08_Regions.j3.eq_2 ..) ?_
  simp only [if_neg (show ¬ (g:Int)<0 by omega)]
  refine l2_ev (t2:=(t2:Int)) (C:=inT i0 (i0+a') (L0.length+j0) (L0.length+j0+b')) (by omega) hMl (by omega) HM (fun i=>(h.bnd D i).2) hE (by omega) (by omega) (by omega) ?_ _ 0 rfl (by omega)
  rw [sA,sB,oA,oB,eE]
  refine l2_end (m:=x2 - x1) (p:=y2 - y1) ⟨by omega⟩ (by omega) (by omega) (by omega) (by omega) (by omega) (by omega) (by omega) (by omega) (by omega) ?_
  rw [ekind]
  have eout:out'++[(⟨kindP (absorb (startC (L0.drop i0) (L1.drop j0)) (L0.drop i0) (L1.drop j0)).1 ((a.drop x1).take (x2 - x1)) ((b.drop y1).take (y2 - y1)),⟨(f:Int),(t2:Int) - (f:Int)⟩,⟨(x1:Int),((x2 - x1:Nat):Int)⟩,⟨(y1:Int),((y2 - y1:Nat):Int)⟩⟩:S32)]=(stepR a b s (absorb (startC (L0.drop i0) (L1.drop j0)) (L0.drop i0) (L1.drop j0)).1).out:=by
   rw [hstep,hout',show (t2:Int) - (f:Int)=((t2 - f:Nat):Int) by omega]
   rfl
  rw [eout,show x1+(x2 - x1)=x2 by omega,show y1+(y2 - y1)=y2 by omega]
  refine l3_ev (C:=inT i0 (i0+a') (L0.length+j0) (L0.length+j0+b')) (by omega) hMl (by omega) HM (fun L' hL' hat=>?_) _ 0 L rfl (by omega) rfl (fun j=>by rw [if_neg (fun hh=>by omega)])
  refine ih _ (by omega) _ (i0+a') (j0+b') _ t2 x2 y2 rfl ?_
  have nd:∀ k,inT 0 (i0+a') L0.length (L0.length+(j0+b')) k=(inT 0 i0 L0.length (L0.length+j0) k || inT i0 (i0+a') (L0.length+j0) (L0.length+j0+b') k):=by
   intro k
   rw [Bool.eq_iff_iff,Bool.or_eq_true,inT_iff,inT_iff,inT_iff];omega
  refine ⟨by omega,by omega,by rw [List.length_set,hL',hlen],fun k=>?_,fun i k hi' hk' hk2=>?_,hinv,?_⟩
  ·rw [edA_set _ _ _ _ (by omega),nd k]
   by_cases hkg:g=k
   ·subst hkg
    rw [if_pos rfl,hcg,Bool.or_true,if_pos rfl,hat g,if_neg (fun hh=>hh.2.2 rfl),eC g hcg]
   rw [if_neg hkg,hat k]
   by_cases hc:inT i0 (i0+a') (L0.length+j0) (L0.length+j0+b') k=true
   ·rw [if_pos ⟨hc,by have:=(K.ends k hc).1;omega,fun e=>hkg e.symm⟩,hc,Bool.or_true,if_pos rfl,eC k hc]
   rw [if_neg (fun hh=>hc hh.1),show inT i0 (i0+a') (L0.length+j0) (L0.length+j0+b') k=false by simpa using hc,Bool.or_false]
   exact h.at_ k
  ·rw [nd] at hi' hk2
   rw [Bool.or_eq_false_iff] at hk2
   cases hd:inT 0 i0 L0.length (L0.length+j0) i with
   | true=>exact h.J i k hd hk' hk2.1
   | false =>
    rw [hd,Bool.false_or] at hi'
    have q1:=(K.ends i hi').2.2
    have q2:=K.far k hk' hk2.1 hk2.2
    omega
  omega
 refine j2_ev (by omega) (by omega) (by omega) (by omega) (by omega) (fun h1 h2=>?_) (fun h1=>?_)
 ·have hmn:mn (f:Int) (o.length:Int)=(f:Int):=by unfold mn;rw [if_neg (by omega)]
  rw [hmn,show (x:Int)+((f:Int) - (t:Int))=(x1:Int) by omega,show (y:Int)+((f:Int) - (t:Int))=(y1:Int) by omega]
  refine body _ ?_
  rw [hgap.2.2.2.2.2.2.1 (by omega),show (f:Int) - (t:Int)=((f - t:Nat):Int) by omega]
 have hft:¬ t<f:=by omega
 rw [show (x:Int)=(x1:Int) by omega,show (y:Int)=(y1:Int) by omega]
 refine body _ ?_
 rw [hgap.2.2.2.2.2.2.2 hft]
end Go.Proofs.Ytnmphfelebkaiaa.Pr
-- shrunk
-- written by a program of this session's (a turned copy of the kit's printer); Lean checks it
namespace Go.Proofs.Ytnmphfelebkaiaa.Pr
open Go.RowKit Go.Proofs.YtnmphfelebkaiaaW.PrintWords Go.Proofs.YtnmphfelebkaiaaW.PrintLast Go.Proofs.YtnmphfelebkaiaaW.PrintMore
attribute [local go_sem] max2_int min2_int max_two min_two max_three min_three max_four min_four   -- for this text's walks alone

attribute [local go_sem high] eqA32


def r08_Same.l0:Nat→List (S32)→List (S32)→Int→Option (Bool)
 | 0,_,_,_=>none
 | k+1,x0,x1,x5=>if x5<(x0.length:Int) then (if 0≤x5 then (if x5<(x1.length:Int) then (if (!(((rd_T32 x0 x5).f0) == ((rd_T32 x1 x5).f0)) || ((!(((rd_T32 x0 x5).f1.f0) == ((rd_T32 x1 x5).f1.f0)) || (!(((rd_T32 x0 x5).f1.f1) == ((rd_T32 x1 x5).f1.f1)))) || ((!(((rd_T32 x0 x5).f2.f0) == ((rd_T32 x1 x5).f2.f0)) || (!(((rd_T32 x0 x5).f2.f1) == ((rd_T32 x1 x5).f2.f1)))) || ((!(((rd_T32 x0 x5).f3.f0) == ((rd_T32 x1 x5).f3.f0)) || (!(((rd_T32 x0 x5).f3.f1) == ((rd_T32 x1 x5).f3.f1))))))))=true then (some false) else (r08_Same.l0 k x0 x1 (wrap64 (x5+1)))) else (none)) else (none)) else (some true)
def r08_Same.f (k:Nat) (l0:List (S32)) (l1:List (S32)):Option (Bool):=if (l0.length:Int)=(l1.length:Int) then (r08_Same.l0 k l0 l1 0) else (some false)
set_option maxHeartbeats 8000000 in
set_option maxRecDepth 100000 in
theorem r08_Same.calls (k:Nat) (A0:Option Addr) (c0:Nat) (l0:List (S32)) (A1:Option Addr) (c1:Nat) (l1:List (S32)) (r:Bool) (w:World) (hr0:Kd.C k32 w A0 l0.length l0) (hc0:l0.length≤c0) (hr1:Kd.C k32 w A1 l1.length l1) (hc1:l1.length≤c1) (h:r08_Same.f k l0 l1=some r) :
  Calls Try.prog 8 #[.slice A0 l0.length c0,.slice A1 l1.length c1] w fun e w'=>e=.returned (.bool r)∧Drawn0 w w':=by
 have hu32:=Try.underlying32
 have HR0:=Aside0.mk hr0
 have HC0:=Aside0.mk hc0
 clear hr0 hc0
 have HR1:=Aside0.mk hr1
 have HC1:=Aside0.mk hc1
 clear hr1 hc1
 have H:(if (l0.length:Int)=(l1.length:Int) then (r08_Same.l0 k l0 l1 0) else (some false))=some r:=h
 clear h
 by_cases c3:(l0.length:Int)=(l1.length:Int)
 rotate_left
 ·rw [if_neg c3] at H
  have c3b0:((l0.length:Int) == (l1.length:Int))=false:=beq_eq_false_iff_ne.mpr c3
  have c3b1:((l0.length:Int) != (l1.length:Int))=true:=bne_iff_ne.mpr c3
  have c3b2:(l0.length == l1.length)=false:=by first|simpa using c3|(simp at c3 ⊢;omega)
  obtain rfl:=Option.some.inj H
  go_enter Try.func8,Try.ntmps8
  go_wp2
  repeat (go_quiet (fail);try go_wp2)
  go_ret
  exact ⟨by first|rfl|(simp;done)|(simp [*];done),by repeat (first|exact Drawn0.refl _|apply Drawn0.step)⟩

 rw [if_pos c3] at H
 have c3b0:((l0.length:Int) == (l1.length:Int))=true:=beq_iff_eq.mpr c3
 have c3b1:((l0.length:Int) != (l1.length:Int))=false:=bne_eq_false_iff_eq.mpr c3
 have c3b2:(l0.length == l1.length)=true:=by first|simpa using c3|(simp at c3 ⊢;omega)
 clear c3
 have H':=Aside0.mk H
 clear H
 go_enter Try.func8,Try.ntmps8
 go_wp2
 repeat (go_quiet (fail);try go_wp2)
 go_loopg [5] k (fun kq v5 w'=>∃ (x5_1:Int),v5=.int .i64 x5_1∧Aside0 (r08_Same.l0 kq l0 l1 x5_1=some r)∧Aside0 (kq≤k)∧Drawn0 w w')
 case atStart=>exact ⟨(0),(by first|rfl|(simp;done)|(simp [*];done)),H',⟨Nat.le_refl _⟩,by repeat (first|exact Drawn0.refl _|apply Drawn0.step)⟩
 case round =>
  clear H'
  try clear c1
  try clear p2
  try clear c3
  try clear c3b0
  try clear c3b1
  try clear c3b2
  obtain ⟨x5_1,rfl,HA,HK1,⟨m1,rfl⟩⟩:=hrel
  cases gk with
  | zero=>exact absurd HA.out (by simp [r08_Same.l0])
  | succ k1 =>
   have H:=HA.out
   clear HA
   simp only [r08_Same.l0] at H
   by_cases c4:x5_1<(l0.length:Int)
   rotate_left
   ·rw [if_neg c4] at H
    have c4b0:decide (x5_1<(l0.length:Int))=false:=decide_eq_false c4
    clear c4
    obtain rfl:=Option.some.inj H
    go_wp2
    repeat (go_quiet (fail);try go_wp2)
    go_ret
    exact ⟨by first|rfl|(simp;done)|(simp [*];done),by repeat (first|exact Drawn0.refl _|apply Drawn0.step)⟩
   rw [if_pos c4] at H
   have c4b0:decide (x5_1<(l0.length:Int))=true:=decide_eq_true c4
   clear c4
   by_cases c5:0≤x5_1
   rotate_left
   ·rw [if_neg c5] at H
    exact absurd H (by simp)
   rw [if_pos c5] at H
   have c5b0:decide (0≤x5_1)=true:=decide_eq_true c5
   clear c5
   by_cases c6:x5_1<(l1.length:Int)
   rotate_left
   ·rw [if_neg c6] at H
    exact absurd H (by simp)
   rw [if_pos c6] at H
   have c6b0:decide (x5_1<(l1.length:Int))=true:=decide_eq_true c6
   clear c6
   by_cases c7:(!(((rd_T32 l0 x5_1).f0) == ((rd_T32 l1 x5_1).f0)) || ((!(((rd_T32 l0 x5_1).f1.f0) == ((rd_T32 l1 x5_1).f1.f0)) || (!(((rd_T32 l0 x5_1).f1.f1) == ((rd_T32 l1 x5_1).f1.f1)))) || ((!(((rd_T32 l0 x5_1).f2.f0) == ((rd_T32 l1 x5_1).f2.f0)) || (!(((rd_T32 l0 x5_1).f2.f1) == ((rd_T32 l1 x5_1).f2.f1)))) || ((!(((rd_T32 l0 x5_1).f3.f0) == ((rd_T32 l1 x5_1).f3.f0)) || (!(((rd_T32 l0 x5_1).f3.f1) == ((rd_T32 l1 x5_1).f3.f1))))))))=true
   ·rw [if_pos c7] at H
    have c7b0:(!(((rd_T32 l0 x5_1).f0) == ((rd_T32 l1 x5_1).f0)) || ((!(((rd_T32 l0 x5_1).f1.f0) == ((rd_T32 l1 x5_1).f1.f0)) || (!(((rd_T32 l0 x5_1).f1.f1) == ((rd_T32 l1 x5_1).f1.f1)))) || ((!(((rd_T32 l0 x5_1).f2.f0) == ((rd_T32 l1 x5_1).f2.f0)) || (!(((rd_T32 l0 x5_1).f2.f1) == ((rd_T32 l1 x5_1).f2.f1)))) || ((!(((rd_T32 l0 x5_1).f3.f0) == ((rd_T32 l1 x5_1).f3.f0)) || (!(((rd_T32 l0 x5_1).f3.f1) == ((rd_T32 l1 x5_1).f3.f1))))))))=true:=c7
    clear c7
    obtain rfl:=Option.some.inj H
    have p114:0≤(x5_1:Int):=of_decide_eq_true (by first|(with_reducible assumption)|assumption)
    have q114:x5_1<(l0.length:Int):=of_decide_eq_true (by first|(with_reducible assumption)|assumption)
    obtain ⟨ad114,e114,hx114_0,hx114_1,hx114_2,hx114_3,hx114_4,hx114_5,hx114_6⟩:=at_T32 HR0.out x5_1 p114 q114
    cases e114
    replace p114:=eq_true p114
    replace q114:=eq_true q114
    have p115:0≤(x5_1:Int):=of_decide_eq_true (by first|(with_reducible assumption)|assumption)
    have q115:x5_1<(l1.length:Int):=of_decide_eq_true (by first|(with_reducible assumption)|assumption)
    obtain ⟨ad115,e115,hx115_0,hx115_1,hx115_2,hx115_3,hx115_4,hx115_5,hx115_6⟩:=at_T32 HR1.out x5_1 p115 q115
    cases e115
    replace p115:=eq_true p115
    replace q115:=eq_true q115
    go_wp2
    repeat (go_quiet (fail);try go_wp2)
    go_ret
    exact ⟨by first|rfl|(simp;done)|(simp [*];done),by repeat (first|exact Drawn0.refl _|apply Drawn0.step)⟩
   rw [if_neg c7] at H
   have c7b0:(!(((rd_T32 l0 x5_1).f0) == ((rd_T32 l1 x5_1).f0)) || ((!(((rd_T32 l0 x5_1).f1.f0) == ((rd_T32 l1 x5_1).f1.f0)) || (!(((rd_T32 l0 x5_1).f1.f1) == ((rd_T32 l1 x5_1).f1.f1)))) || ((!(((rd_T32 l0 x5_1).f2.f0) == ((rd_T32 l1 x5_1).f2.f0)) || (!(((rd_T32 l0 x5_1).f2.f1) == ((rd_T32 l1 x5_1).f2.f1)))) || ((!(((rd_T32 l0 x5_1).f3.f0) == ((rd_T32 l1 x5_1).f3.f0)) || (!(((rd_T32 l0 x5_1).f3.f1) == ((rd_T32 l1 x5_1).f3.f1))))))))=false:=by simpa using c7
   clear c7
   have H':=Aside0.mk H
   clear H
   have p114:0≤(x5_1:Int):=of_decide_eq_true (by first|(with_reducible assumption)|assumption)
   have q114:x5_1<(l0.length:Int):=of_decide_eq_true (by first|(with_reducible assumption)|assumption)
   obtain ⟨ad114,e114,hx114_0,hx114_1,hx114_2,hx114_3,hx114_4,hx114_5,hx114_6⟩:=at_T32 HR0.out x5_1 p114 q114
   cases e114
   replace p114:=eq_true p114
   replace q114:=eq_true q114
   have p115:0≤(x5_1:Int):=of_decide_eq_true (by first|(with_reducible assumption)|assumption)
   have q115:x5_1<(l1.length:Int):=of_decide_eq_true (by first|(with_reducible assumption)|assumption)
   obtain ⟨ad115,e115,hx115_0,hx115_1,hx115_2,hx115_3,hx115_4,hx115_5,hx115_6⟩:=at_T32 HR1.out x5_1 p115 q115
   cases e115
   replace p115:=eq_true p115
   replace q115:=eq_true q115
   go_wp2
   repeat (go_quiet (fail);try go_wp2)
   go_roundg k1
   case measure=>have:=HK1.out;omega
   case rel=>exact ⟨(wrap64 (x5_1+1)),(by first|rfl|(simp;done)|(simp [*];done)),H',⟨by have:=HK1.out;omega⟩,by repeat (first|exact Drawn0.refl _|apply Drawn0.step)⟩
end Go.Proofs.Ytnmphfelebkaiaa.Pr
-- shrunk
-- written by a program of this session's (a turned copy of the kit's printer); Lean checks it
namespace Go.Proofs.Ytnmphfelebkaiaa.Pr
open Go.RowKit Go.Proofs.YtnmphfelebkaiaaW.PrintWords Go.Proofs.YtnmphfelebkaiaaW.PrintLast Go.Proofs.YtnmphfelebkaiaaW.PrintMore
attribute [local go_sem] max2_int min2_int max_two min_two max_three min_three max_four min_four   -- for this text's walks alone

attribute [local go_sem high] eqA32


def align_lies.f (a0_0:Int) (a0_1:Int) (a1:Int) (a2:Int):Option (Bool):=if a0_0=a1 then (if a0_1 ≥ 0 then (some (decide (a0_1≤(wrap64 (a2 - a1))))) else (some false)) else (some false)
set_option maxHeartbeats 8000000 in
set_option maxRecDepth 100000 in
theorem align_lies.calls (a0_0:Int) (a0_1:Int) (a1:Int) (a2:Int) (r:Bool) (w:World) (h:align_lies.f a0_0 a0_1 a1 a2=some r) :
  Calls Try.prog 22 #[.agg #[.int .i64 a0_0,.int .i64 a0_1],.int .i64 a1,.int .i64 a2] w fun e w'=>e=.returned (.bool r)∧Below w.heap.size w w':=by
 have hu30:=Try.underlying30
 have HB:=Aside0.mk (Below.refl w.heap.size w)
 have H:(if a0_0=a1 then (if a0_1 ≥ 0 then (some (decide (a0_1≤(wrap64 (a2 - a1))))) else (some false)) else (some false))=some r:=h
 clear h
 by_cases c4:a0_0=a1
 rotate_left
 ·rw [if_neg c4] at H
  have c4b0:(a0_0 == a1)=false:=beq_eq_false_iff_ne.mpr c4
  have c4b1:(a0_0 != a1)=true:=bne_iff_ne.mpr c4
  obtain rfl:=Option.some.inj H
  go_enter Try.func22,Try.ntmps22
  go_wp2_with (first|((with_reducible refine gate_dst (N:=3) rfl ?_);refine box_event ?hg (N:=3) ?hd (cs:=#[.int .i64 a0_0,.int .i64 a0_1]) (t:=30) ?hr ?_;(case hd=>rfl);(case hg=>rfl);(case hr=>first|(go_simp;done)|(go_simp;rfl));intro gb108 hg w10 hbox hb;have n0_:=Aside0.mk (below_step (by repeat (first|(with_reducible first|exact HB.out|apply below_alloc|apply pw_below_drewN|apply below_drew1)|exact HB.out)) hb);have n1_:=Aside0.mk (hbox);have n2_:=Aside0.mk ((by rw [hg];exact (below_size (by repeat (first|(with_reducible first|exact HB.out|apply below_alloc|apply pw_below_drewN|apply below_drew1)|exact HB.out))):w.heap.size≤gb108));have n3_:=Aside0.mk ((by rw [hg];exact (below_size (by repeat (first|(with_reducible first|exact HB.out|apply below_alloc|apply pw_below_drewN|apply below_drew1)|exact HB.out))):w.heap.size≤gb108));clear HB;have HB:=n0_;have BK108:=n1_;have GW108:=n2_;have GE108:=n3_;clear n0_ n1_ n2_ n3_;clear hb hbox hg;have hcz11_0:w10.cell? ⟨gb108,0,none⟩=some (.int .i64 a0_0):=(blk_cell BK108.out 0).trans rfl;have hcz11_1:w10.cell? ⟨gb108,1,none⟩=some (.int .i64 a0_1):=(blk_cell BK108.out 1).trans rfl;have hfz11_0:=blk_frozen BK108.out 0;have hfz11_1:=blk_frozen BK108.out 1))
  go_ret
  exact ⟨by first|rfl|(simp [errW_none,errW_some]<;>rfl)|(simp [*,errW_none,errW_some]<;>rfl),by repeat (first|(with_reducible first|exact HB.out|apply below_alloc|apply pw_below_drewN|apply below_drew1|refine below_set ?_ GE108.out)|exact HB.out)⟩

 rw [if_pos c4] at H
 have c4b0:(a0_0 == a1)=true:=beq_iff_eq.mpr c4
 have c4b1:(a0_0 != a1)=false:=bne_eq_false_iff_eq.mpr c4
 clear c4
 by_cases c5:a0_1 ≥ 0
 ·rw [if_pos c5] at H
  have c5b0:decide (0≤a0_1)=true:=decide_eq_true c5
  clear c5
  obtain rfl:=Option.some.inj H
  go_enter Try.func22,Try.ntmps22
  go_wp2_with (first|((with_reducible refine gate_dst (N:=3) rfl ?_);refine box_event ?hg (N:=3) ?hd (cs:=#[.int .i64 a0_0,.int .i64 a0_1]) (t:=30) ?hr ?_;(case hd=>rfl);(case hg=>rfl);(case hr=>first|(go_simp;done)|(go_simp;rfl));intro gb108 hg w6 hbox hb;have n0_:=Aside0.mk (below_step (by repeat (first|(with_reducible first|exact HB.out|apply below_alloc|apply pw_below_drewN|apply below_drew1)|exact HB.out)) hb);have n1_:=Aside0.mk (hbox);have n2_:=Aside0.mk ((by rw [hg];exact (below_size (by repeat (first|(with_reducible first|exact HB.out|apply below_alloc|apply pw_below_drewN|apply below_drew1)|exact HB.out))):w.heap.size≤gb108));have n3_:=Aside0.mk ((by rw [hg];exact (below_size (by repeat (first|(with_reducible first|exact HB.out|apply below_alloc|apply pw_below_drewN|apply below_drew1)|exact HB.out))):w.heap.size≤gb108));clear HB;have HB:=n0_;have BK108:=n1_;have GW108:=n2_;have GE108:=n3_;clear n0_ n1_ n2_ n3_;clear hb hbox hg;have hcz7_0:w6.cell? ⟨gb108,0,none⟩=some (.int .i64 a0_0):=(blk_cell BK108.out 0).trans rfl;have hcz7_1:w6.cell? ⟨gb108,1,none⟩=some (.int .i64 a0_1):=(blk_cell BK108.out 1).trans rfl;have hfz7_0:=blk_frozen BK108.out 0;have hfz7_1:=blk_frozen BK108.out 1))
  go_ret
  exact ⟨by first|rfl|(simp [errW_none,errW_some]<;>rfl)|(simp [*,errW_none,errW_some]<;>rfl),by repeat (first|(with_reducible first|exact HB.out|apply below_alloc|apply pw_below_drewN|apply below_drew1|refine below_set ?_ GE108.out)|exact HB.out)⟩
 rw [if_neg c5] at H
 have c5b0:decide (0≤a0_1)=false:=decide_eq_false c5
 clear c5
 obtain rfl:=Option.some.inj H
 go_enter Try.func22,Try.ntmps22
 go_wp2_with (first|((with_reducible refine gate_dst (N:=3) rfl ?_);refine box_event ?hg (N:=3) ?hd (cs:=#[.int .i64 a0_0,.int .i64 a0_1]) (t:=30) ?hr ?_;(case hd=>rfl);(case hg=>rfl);(case hr=>first|(go_simp;done)|(go_simp;rfl));intro gb108 hg w8 hbox hb;have n0_:=Aside0.mk (below_step (by repeat (first|(with_reducible first|exact HB.out|apply below_alloc|apply pw_below_drewN|apply below_drew1)|exact HB.out)) hb);have n1_:=Aside0.mk (hbox);have n2_:=Aside0.mk ((by rw [hg];exact (below_size (by repeat (first|(with_reducible first|exact HB.out|apply below_alloc|apply pw_below_drewN|apply below_drew1)|exact HB.out))):w.heap.size≤gb108));have n3_:=Aside0.mk ((by rw [hg];exact (below_size (by repeat (first|(with_reducible first|exact HB.out|apply below_alloc|apply pw_below_drewN|apply below_drew1)|exact HB.out))):w.heap.size≤gb108));clear HB;have HB:=n0_;have BK108:=n1_;have GW108:=n2_;have GE108:=n3_;clear n0_ n1_ n2_ n3_;clear hb hbox hg;have hcz9_0:w8.cell? ⟨gb108,0,none⟩=some (.int .i64 a0_0):=(blk_cell BK108.out 0).trans rfl;have hcz9_1:w8.cell? ⟨gb108,1,none⟩=some (.int .i64 a0_1):=(blk_cell BK108.out 1).trans rfl;have hfz9_0:=blk_frozen BK108.out 0;have hfz9_1:=blk_frozen BK108.out 1))
 go_ret
 exact ⟨by first|rfl|(simp [errW_none,errW_some]<;>rfl)|(simp [*,errW_none,errW_some]<;>rfl),by repeat (first|(with_reducible first|exact HB.out|apply below_alloc|apply pw_below_drewN|apply below_drew1|refine below_set ?_ GE108.out)|exact HB.out)⟩
end Go.Proofs.Ytnmphfelebkaiaa.Pr
-- shrunk
-- written by a program of this session's (a turned copy of the kit's printer); Lean checks it
namespace Go.Proofs.Ytnmphfelebkaiaa.Pr
open Go.RowKit Go.Proofs.YtnmphfelebkaiaaW.PrintWords Go.Proofs.YtnmphfelebkaiaaW.PrintLast Go.Proofs.YtnmphfelebkaiaaW.PrintMore
attribute [local go_sem] max2_int min2_int max_two min_two max_three min_three max_four min_four   -- for this text's walks alone

attribute [local go_sem high] eqA32


def align_holds.f (k:Nat) (a0:Int) (l1:List ByteArray) (l2:List ByteArray) (l3:List ByteArray):Option (Bool):=if a0=0 then ((slices_Equal_string_string.f k l1 l2).bind fun t109=>(if t109=true then ((slices_Equal_string_string.f k l1 l3).bind fun t110=>(some t110)) else (some false))) else (if a0=1 then ((slices_Equal_string_string.f k l1 l3).bind fun t111=>(some t111)) else (if a0=2 then ((slices_Equal_string_string.f k l1 l2).bind fun t112=>(some t112)) else (if a0=3 then ((slices_Equal_string_string.f k l2 l3).bind fun t113=>(some t113)) else (some (a0 == 4)))))
set_option maxHeartbeats 8000000 in
set_option maxRecDepth 100000 in
theorem align_holds.calls (k:Nat) (a0:Int) (A1:Option Addr) (c1:Nat) (l1:List ByteArray) (A2:Option Addr) (c2:Nat) (l2:List ByteArray) (A3:Option Addr) (c3:Nat) (l3:List ByteArray) (r:Bool) (w:World) (hr1:Kd.C Kd.string w A1 l1.length l1) (hc1:l1.length≤c1) (hr2:Kd.C Kd.string w A2 l2.length l2) (hc2:l2.length≤c2) (hr3:Kd.C Kd.string w A3 l3.length l3) (hc3:l3.length≤c3) (h:align_holds.f k a0 l1 l2 l3=some r) :
  Calls Try.prog 23 #[.int .i64 a0,.slice A1 l1.length c1,.slice A2 l2.length c2,.slice A3 l3.length c3] w fun e w'=>e=.returned (.bool r)∧Drawn0 w w':=by
 have HR1:=Aside0.mk hr1
 have HC1:=Aside0.mk hc1
 clear hr1 hc1
 have HR2:=Aside0.mk hr2
 have HC2:=Aside0.mk hc2
 clear hr2 hc2
 have HR3:=Aside0.mk hr3
 have HC3:=Aside0.mk hc3
 clear hr3 hc3
 have H:(if a0=0 then ((slices_Equal_string_string.f k l1 l2).bind fun t109=>(if t109=true then ((slices_Equal_string_string.f k l1 l3).bind fun t110=>(some t110)) else (some false))) else (if a0=1 then ((slices_Equal_string_string.f k l1 l3).bind fun t111=>(some t111)) else (if a0=2 then ((slices_Equal_string_string.f k l1 l2).bind fun t112=>(some t112)) else (if a0=3 then ((slices_Equal_string_string.f k l2 l3).bind fun t113=>(some t113)) else (some (a0 == 4))))))=some r:=h
 clear h
 by_cases c5:a0=0
 ·rw [if_pos c5] at H
  have c5b0:(a0 == 0)=true:=beq_iff_eq.mpr c5
  have c5b1:(a0 != 0)=false:=bne_eq_false_iff_eq.mpr c5
  clear c5
  replace H:=Option.bind_eq_some_iff.mp H
  obtain ⟨t109,A60,H⟩:=H
  replace H:(if t109=true then ((slices_Equal_string_string.f k l1 l3).bind fun t110=>(some t110)) else (some false))=some r:=H
  have A6:=Aside0.mk A60
  clear A60
  by_cases c7:t109=true
  rotate_left
  ·replace c7:=Bool.eq_false_iff.mpr c7
   subst c7
   have H1:(some false)=some r:=by rw [if_neg (show ¬ (false=true) by decide)] at H;exact H
   clear H
   have H:=H1
   clear H1
   obtain rfl:=Option.some.inj H
   go_enter Try.func23,Try.ntmps23
   go_wp2_with (first|((with_reducible refine gate_callee (f:=33) rfl ?_);refine goesL_ (some 14) rfl rfl Try.func33 (by kernel_rfl) rfl #[.slice A1 l1.length c1,.slice A2 l2.length c2] rfl (by (try simp only [List.map_toArray,List.map_cons,List.map_nil]);first|done|rfl|(simp only [List.length_drop,List.length_take];rfl)) ?_;(with_reducible refine (slices_Equal_string_string.calls k _ _ l1 _ _ l2 false _ ?side1 ?side2 ?side3 ?side4 A6.out).mono ?_);(case side1=>repeat (first|exact HR1.out|(with_reducible refine Kd.C_alloc ?_ _)|(with_reducible refine Kd.C_drewN ?_ _)|(with_reducible refine Kd.C_drew ?_)));(case side2=>exact HC1.out);(case side3=>repeat (first|exact HR2.out|(with_reducible refine Kd.C_alloc ?_ _)|(with_reducible refine Kd.C_drewN ?_ _)|(with_reducible refine Kd.C_drew ?_)));(case side4=>exact HC2.out);rintro e w' ⟨rfl,⟨nd,rfl⟩⟩;refine ⟨_,rfl,?_⟩))
   go_ret
   exact ⟨by first|rfl|(simp;done)|(simp [*];done),by repeat (first|exact Drawn0.refl _|apply Drawn0.step)⟩
  subst c7
  have H1:((slices_Equal_string_string.f k l1 l3).bind fun t110=>(some t110))=some r:=by rw [if_pos rfl] at H;exact H
  clear H
  have H:=H1
  clear H1
  replace H:=Option.bind_eq_some_iff.mp H
  obtain ⟨t110,A80,H⟩:=H
  replace H:(some t110)=some r:=H
  have A8:=Aside0.mk A80
  clear A80
  obtain rfl:=Option.some.inj H
  go_enter Try.func23,Try.ntmps23
  go_wp2_with (first|((with_reducible refine gate_callee (f:=33) rfl ?_);refine goesL_ (some 14) rfl rfl Try.func33 (by kernel_rfl) rfl #[.slice A1 l1.length c1,.slice A2 l2.length c2] rfl (by (try simp only [List.map_toArray,List.map_cons,List.map_nil]);first|done|rfl|(simp only [List.length_drop,List.length_take];rfl)) ?_;(with_reducible refine (slices_Equal_string_string.calls k _ _ l1 _ _ l2 true _ ?side1 ?side2 ?side3 ?side4 A6.out).mono ?_);(case side1=>repeat (first|exact HR1.out|(with_reducible refine Kd.C_alloc ?_ _)|(with_reducible refine Kd.C_drewN ?_ _)|(with_reducible refine Kd.C_drew ?_)));(case side2=>exact HC1.out);(case side3=>repeat (first|exact HR2.out|(with_reducible refine Kd.C_alloc ?_ _)|(with_reducible refine Kd.C_drewN ?_ _)|(with_reducible refine Kd.C_drew ?_)));(case side4=>exact HC2.out);rintro e w' ⟨rfl,⟨nd,rfl⟩⟩;refine ⟨_,rfl,?_⟩)|(go_at_call 33;(with_reducible refine (slices_Equal_string_string.calls k _ _ l1 _ _ l3 t110 _ ?side1 ?side2 ?side3 ?side4 A8.out).mono ?_);(case side1=>repeat (first|exact HR1.out|(with_reducible refine Kd.C_alloc ?_ _)|(with_reducible refine Kd.C_drewN ?_ _)|(with_reducible refine Kd.C_drew ?_)));(case side2=>exact HC1.out);(case side3=>repeat (first|exact HR3.out|(with_reducible refine Kd.C_alloc ?_ _)|(with_reducible refine Kd.C_drewN ?_ _)|(with_reducible refine Kd.C_drew ?_)));(case side4=>exact HC3.out);rintro e w' ⟨rfl,⟨nd,rfl⟩⟩))
  go_ret
  exact ⟨by first|rfl|(simp;done)|(simp [*];done),by repeat (first|exact Drawn0.refl _|apply Drawn0.step)⟩
 rw [if_neg c5] at H
 have c5b0:(a0 == 0)=false:=beq_eq_false_iff_ne.mpr c5
 have c5b1:(a0 != 0)=true:=bne_iff_ne.mpr c5
 by_cases c9:a0=1
 ·rw [if_pos c9] at H
  have c9b0:(a0 == 1)=true:=beq_iff_eq.mpr c9
  have c9b1:(a0 != 1)=false:=bne_eq_false_iff_eq.mpr c9
  clear c9
  replace H:=Option.bind_eq_some_iff.mp H
  obtain ⟨t111,A100,H⟩:=H
  replace H:(some t111)=some r:=H
  have A10:=Aside0.mk A100
  clear A100
  obtain rfl:=Option.some.inj H
  go_enter Try.func23,Try.ntmps23
  go_wp2_with (first|((with_reducible refine gate_callee (f:=33) rfl ?_);refine goesL_ (some 24) rfl rfl Try.func33 (by kernel_rfl) rfl #[.slice A1 l1.length c1,.slice A3 l3.length c3] rfl (by (try simp only [List.map_toArray,List.map_cons,List.map_nil]);first|done|rfl|(simp only [List.length_drop,List.length_take];rfl)) ?_;(with_reducible refine (slices_Equal_string_string.calls k _ _ l1 _ _ l3 t111 _ ?side1 ?side2 ?side3 ?side4 A10.out).mono ?_);(case side1=>repeat (first|exact HR1.out|(with_reducible refine Kd.C_alloc ?_ _)|(with_reducible refine Kd.C_drewN ?_ _)|(with_reducible refine Kd.C_drew ?_)));(case side2=>exact HC1.out);(case side3=>repeat (first|exact HR3.out|(with_reducible refine Kd.C_alloc ?_ _)|(with_reducible refine Kd.C_drewN ?_ _)|(with_reducible refine Kd.C_drew ?_)));(case side4=>exact HC3.out);rintro e w' ⟨rfl,⟨nd,rfl⟩⟩;refine ⟨_,rfl,?_⟩))
  go_ret
  exact ⟨by first|rfl|(simp;done)|(simp [*];done),by repeat (first|exact Drawn0.refl _|apply Drawn0.step)⟩
 rw [if_neg c9] at H
 have c9b0:(a0 == 1)=false:=beq_eq_false_iff_ne.mpr c9
 have c9b1:(a0 != 1)=true:=bne_iff_ne.mpr c9
 by_cases c11:a0=2
 ·rw [if_pos c11] at H
  have c11b0:(a0 == 2)=true:=beq_iff_eq.mpr c11
  have c11b1:(a0 != 2)=false:=bne_eq_false_iff_eq.mpr c11
  clear c11
  replace H:=Option.bind_eq_some_iff.mp H
  obtain ⟨t112,A120,H⟩:=H
  replace H:(some t112)=some r:=H
  have A12:=Aside0.mk A120
  clear A120
  obtain rfl:=Option.some.inj H
  go_enter Try.func23,Try.ntmps23
  go_wp2_with (first|((with_reducible refine gate_callee (f:=33) rfl ?_);refine goesL_ (some 29) rfl rfl Try.func33 (by kernel_rfl) rfl #[.slice A1 l1.length c1,.slice A2 l2.length c2] rfl (by (try simp only [List.map_toArray,List.map_cons,List.map_nil]);first|done|rfl|(simp only [List.length_drop,List.length_take];rfl)) ?_;(with_reducible refine (slices_Equal_string_string.calls k _ _ l1 _ _ l2 t112 _ ?side1 ?side2 ?side3 ?side4 A12.out).mono ?_);(case side1=>repeat (first|exact HR1.out|(with_reducible refine Kd.C_alloc ?_ _)|(with_reducible refine Kd.C_drewN ?_ _)|(with_reducible refine Kd.C_drew ?_)));(case side2=>exact HC1.out);(case side3=>repeat (first|exact HR2.out|(with_reducible refine Kd.C_alloc ?_ _)|(with_reducible refine Kd.C_drewN ?_ _)|(with_reducible refine Kd.C_drew ?_)));(case side4=>exact HC2.out);rintro e w' ⟨rfl,⟨nd,rfl⟩⟩;refine ⟨_,rfl,?_⟩))
  go_ret
  exact ⟨by first|rfl|(simp;done)|(simp [*];done),by repeat (first|exact Drawn0.refl _|apply Drawn0.step)⟩
 rw [if_neg c11] at H
 have c11b0:(a0 == 2)=false:=beq_eq_false_iff_ne.mpr c11
 have c11b1:(a0 != 2)=true:=bne_iff_ne.mpr c11
 by_cases c13:a0=3
 rotate_left
 ·rw [if_neg c13] at H
  have c13b0:(a0 == 3)=false:=beq_eq_false_iff_ne.mpr c13
  have c13b1:(a0 != 3)=true:=bne_iff_ne.mpr c13
  obtain rfl:=Option.some.inj H
  go_enter Try.func23,Try.ntmps23
  go_wp2
  go_ret
  exact ⟨by first|rfl|(simp;done)|(simp [*];done),by repeat (first|exact Drawn0.refl _|apply Drawn0.step)⟩

 rw [if_pos c13] at H
 have c13b0:(a0 == 3)=true:=beq_iff_eq.mpr c13
 have c13b1:(a0 != 3)=false:=bne_eq_false_iff_eq.mpr c13
 clear c13
 replace H:=Option.bind_eq_some_iff.mp H
 obtain ⟨t113,A140,H⟩:=H
 replace H:(some t113)=some r:=H
 have A14:=Aside0.mk A140
 clear A140
 obtain rfl:=Option.some.inj H
 go_enter Try.func23,Try.ntmps23
 go_wp2_with (first|((with_reducible refine gate_callee (f:=33) rfl ?_);refine goesL_ (some 34) rfl rfl Try.func33 (by kernel_rfl) rfl #[.slice A2 l2.length c2,.slice A3 l3.length c3] rfl (by (try simp only [List.map_toArray,List.map_cons,List.map_nil]);first|done|rfl|(simp only [List.length_drop,List.length_take];rfl)) ?_;(with_reducible refine (slices_Equal_string_string.calls k _ _ l2 _ _ l3 t113 _ ?side1 ?side2 ?side3 ?side4 A14.out).mono ?_);(case side1=>repeat (first|exact HR2.out|(with_reducible refine Kd.C_alloc ?_ _)|(with_reducible refine Kd.C_drewN ?_ _)|(with_reducible refine Kd.C_drew ?_)));(case side2=>exact HC2.out);(case side3=>repeat (first|exact HR3.out|(with_reducible refine Kd.C_alloc ?_ _)|(with_reducible refine Kd.C_drewN ?_ _)|(with_reducible refine Kd.C_drew ?_)));(case side4=>exact HC3.out);rintro e w' ⟨rfl,⟨nd,rfl⟩⟩;refine ⟨_,rfl,?_⟩))
 go_ret
 exact ⟨by first|rfl|(simp;done)|(simp [*];done),by repeat (first|exact Drawn0.refl _|apply Drawn0.step)⟩
end Go.Proofs.Ytnmphfelebkaiaa.Pr
-- shrunk
