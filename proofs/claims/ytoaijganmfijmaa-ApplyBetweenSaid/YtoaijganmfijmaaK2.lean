/-
Several plain texts in one.
-/
import Derived.Test.YtoaijganmfijmaaK1
import Derived.Test.YtoaijganmfijmaaD5
import Derived.Test.YtoaijganmfijmaaD6a
import Derived.Test.YtoaijganmfijmaaK0
set_option linter.unusedVariables false
set_option linter.unusedSimpArgs false
/-
What package hunk makes of edits: group and Make, as plain Lean.
-/
namespace Go.Proofs.Ytoaijganmfijmaa.Pr
open Go.RowKit Go.Proofs.YtoaijganmfijmaaW.PrintWords Go.Proofs.YtoaijganmfijmaaW.PrintLast Go.Proofs.YtoaijganmfijmaaW.PrintMore
abbrev Hk:=S41
def blks (a:List ByteArray) (t:Nat):List Ed→List Blk
 | []=>[]
 | e :: l=>⟨(a.take e.f0.toNat).drop t,(a.take (e.f0+e.f1).toNat).drop e.f0.toNat,e.f2⟩ :: blks a (e.f0+e.f1).toNat l
def endE (p:Ed):List Ed→Int
 | []=>p.f0+p.f1
 | e :: l=>endE e l
def diffE:List Ed→Int
 | []=>0
 | e :: l=>((e.f2.length:Int) - e.f1)+diffE l
theorem okFrom_last {many:Int}:∀ (l:List Ed) (p:Ed) (fr:Int),okFrom fr many (p :: l)=true→fr≤endE p l∧p.f0+p.f1≤endE p l∧endE p l≤many
 | [],p,fr,h=>by obtain ⟨c1,c2,c3,c4,_,_⟩:=okFrom_cons h;simp only [endE];omega
 | e :: l,p,fr,h=>by
  obtain ⟨c1,c2,c3,c4,_,h'⟩:=okFrom_cons h
  have:=okFrom_last l e _ h'
  simp only [endE];omega
theorem endE_get:∀ (l:List Ed) (p:Ed),endE p l=((p :: l)[l.length]'(by simp)).f0+((p :: l)[l.length]'(by simp)).f1
 | [],p=>rfl
 | e :: l,p=>by have:=endE_get l e;simpa [endE] using this
theorem blks_ok (a:List ByteArray):∀ (l:List Ed) (fr:Int) (t:Nat) (first:Bool),(t:Int)≤fr→(first=true∨(t:Int)<fr)→okFrom fr a.length l=true→BOk first (blks a t l)
 | [],fr,t,first,h,hf,ho=>trivial
 | e :: l,fr,t,first,h,hf,ho=>by
  obtain ⟨c1,c2,c3,c4,c5,ho'⟩:=okFrom_cons ho
  refine ⟨?_,?_,blks_ok a l _ _ false (by omega) (Or.inr (by omega)) ho'⟩
  ·by_cases hi:e.f2=[]
   ·left
    intro hd
    have h2:=congrArg List.length hd
    simp only [List.length_drop,List.length_take,List.length_nil] at h2
    exact c5 ⟨by omega,hi⟩
   ·exact Or.inr hi
  ·rcases hf with hf|hf
   ·exact Or.inl hf
   ·right
    intro hk
    have h2:=congrArg List.length hk
    simp only [List.length_drop,List.length_take,List.length_nil] at h2
    omega
theorem blks_counts (a:List ByteArray):∀ (l:List Ed) (p:Ed) (fr:Int) (t:Nat),(t:Int)≤fr→okFrom fr a.length (p :: l)=true →
  (oldN (blks a t (p :: l)):Int)=endE p l - t∧(newN (blks a t (p :: l)):Int)=endE p l - t+diffE (p :: l)
 | [],p,fr,t,h,ho=>by
  obtain ⟨c1,c2,c3,c4,c5,ho'⟩:=okFrom_cons ho
  simp only [blks,oldN,newN,endE,diffE,List.length_drop,List.length_take]
  omega
 | e :: l,p,fr,t,h,ho=>by
  obtain ⟨c1,c2,c3,c4,c5,ho'⟩:=okFrom_cons ho
  have ih:=blks_counts a l e _ (p.f0+p.f1).toNat (by omega) ho'
  rw [blks]
  simp only [oldN,newN,endE,List.length_drop,List.length_take]
  rw [diffE]
  omega
def fromH (p:Ed) (ar:Int):Nat:=(p.f0 - ar).toNat
def toH (a:List ByteArray) (p:Ed) (l:List Ed) (ar:Int):Nat:=min a.length (endE p l+ar).toNat
def linesH (a:List ByteArray) (ar:Int) (p:Ed) (l:List Ed):List ByteArray:=blkLines (blks a (fromH p ar) (p :: l)) ((a.take (toH a p l ar)).drop (endE p l).toNat)
def hunkOf (a:List ByteArray) (ar more:Int) (p:Ed) (l:List Ed):Hk :=
 ⟨(fromH p ar:Int),(toH a p l ar:Int) - fromH p ar,fromH p ar+more,(toH a p l ar:Int) - fromH p ar+diffE (p :: l),linesH a ar p l⟩
theorem tail_len (a:List ByteArray) (ar:Int) (p:Ed) (l:List Ed) (fr:Int) (har:0≤ar) (hf:0≤fr) (ho:okFrom fr a.length (p :: l)=true) :
  ((((a.take (toH a p l ar)).drop (endE p l).toNat).length:Nat):Int)=toH a p l ar - endE p l∧endE p l≤toH a p l ar∧toH a p l ar≤a.length:=by
 have h:=okFrom_last l p fr ho
 obtain ⟨c1,c2,c3,c4,c5,ho'⟩:=okFrom_cons ho
 simp only [List.length_drop,List.length_take,toH]
 omega
theorem cntL_linesH (a:List ByteArray) (ar:Int) (p:Ed) (l:List Ed) (fr:Int) (har:0≤ar) (hf:0≤fr) (ho:okFrom fr a.length (p :: l)=true) :
  cntL false 0 0 (linesH a ar p l)=((toH a p l ar:Int) - fromH p ar,(toH a p l ar:Int) - fromH p ar+diffE (p :: l),true):=by
 obtain ⟨c1,c2,c3,c4,c5,ho'⟩:=okFrom_cons ho
 have ho0:okFrom p.f0 a.length (p :: l)=true:=by
  simp only [okFrom,Bool.and_eq_true,decide_eq_true_eq]
  exact ⟨⟨Int.le_refl _,c2,c3,c4,c5⟩,ho'⟩
 have hft:(fromH p ar:Int)≤p.f0:=by unfold fromH;omega
 have h1:=blks_ok a (p :: l) p.f0 (fromH p ar) true hft (Or.inl rfl) ho0
 have h2:=blks_counts a l p p.f0 (fromH p ar) hft ho0
 have h3:=tail_len a ar p l fr har hf ho
 rw [linesH,cntL_blk _ _ true false _ _ h1 (fun _=>rfl)]
 congr 1
 ·omega
 congr 1;omega
theorem Group_l0 (a:List ByteArray) (g:List Ed) (ha:a.length≤1099511627776) (hg:g.length≤1099511627776) (hsa:∀ s ∈ a,s.size≤4611686018427387904) (hsg:∀ e ∈ g,∀ s ∈ e.f2,s.size≤4611686018427387904) (q0 q1 q2 q3:Int) (tw:Nat) (hto:tw≤a.length) (G:List ByteArray) (hG:G.length≤1099511627776) (c:Int × Int × Bool) (hc:cntL false 0 0 G=c) :
  ∀ (d i t:Nat) (fr:Int) (en:Nat) (out:List ByteArray),g.length - i=d→i≤g.length→0≤fr→(t:Int)≤fr→t≤a.length→okFrom fr a.length (g.drop i)=true→en≤tw→(match g.drop i with|[]=>(en:Int)=t|p :: l=>(en:Int)=endE p l) →
   out++blkLines (blks a t (g.drop i)) ((a.take tw).drop en)=G→insE (g.drop i)≤1099511627776 →
  Ev (fun k=>hunk_group.l0 k a (tw:Int) (t:Int) g (g.length:Int) (i:Int) q0 q1 q2 q3 out) (q0,c.1,q2,c.2.1,G):=by
 intro d
 induction d with
 | zero =>
  intro i t fr en out hd hi hf0 hf ht ho hen hm hG2 hb
  refine Ev.step (fun _=>hunk_group.l0.eq_2 ..) ?_
  rw [List.drop_of_length_le (by omega:g.length≤i)] at *
  have hm':(en:Int)=t:=hm
  have hent:en=t:=by omega
  subst hent
  simp only [if_neg (show ¬ (i:Int)<(g.length:Int) by omega),if_pos (show 0≤(en:Int) by omega),if_pos (show (en:Int)≤(tw:Int) by omega),if_pos (show (tw:Int)≤(a.length:Int) by omega),Int.toNat_natCast]
  refine Ev.bind (signed_ev 32 32 enc32 _ (fun s hm=>hsa s (List.mem_of_mem_take (List.mem_of_mem_drop hm))) (by rw [List.length_drop,List.length_take];omega)) ?_
  have e:out++sgs 32 ((a.take tw).drop en)=G:=hG2
  have hL:=congrArg List.length e
  rw [List.length_append] at hL
  simp only [if_pos (show out.length+(sgs 32 ((a.take tw).drop en)).length<8796093022208 by omega),e,Option.bind_some]
  refine Ev.bind (count_ev G hG) ?_
  rw [hc]
  exact Ev.now _
 | succ d ih =>
  intro i t fr en out hd hi hf0 hf ht ho hen hm hG2 hb
  refine Ev.step (fun _=>hunk_group.l0.eq_2 ..) ?_
  have h0:i<g.length:=by omega
  rw [List.drop_eq_getElem_cons h0] at ho hm hG2 hb
  obtain ⟨c1,c2,c3,c4,c5,ho'⟩:=okFrom_cons ho
  have w1:wrap64 (g[i].f0+g[i].f1)=g[i].f0+g[i].f1:=w_in (by omega) (by omega)
  have hmem:g[i] ∈ g:=List.getElem_mem h0
  simp only [insE] at hb
  simp only [if_pos (show (i:Int)<(g.length:Int) by omega),if_pos (show 0≤(i:Int) by omega),rdE_at h0,w_succ h0 (show g.length≤4611686018427387904 by omega),if_pos (show 0≤(t:Int) by omega),if_pos (show (t:Int)≤g[i].f0 by omega),if_pos c3,w1,
   if_pos (show 0≤g[i].f0 by omega),if_pos (show g[i].f0≤g[i].f0+g[i].f1 by omega),if_pos (show g[i].f0+g[i].f1≤(a.length:Int) by omega),Int.toNat_natCast]
  refine Ev.bind (signed_ev 32 32 enc32 _ (fun s hm=>hsa s (List.mem_of_mem_take (List.mem_of_mem_drop hm))) (by rw [List.length_drop,List.length_take];omega)) ?_
  refine Ev.bind (signed_ev 45 45 enc45 _ (fun s hm=>hsa s (List.mem_of_mem_take (List.mem_of_mem_drop hm))) (by rw [List.length_drop,List.length_take];omega)) ?_
  refine Ev.bind (signed_ev 43 43 enc43 _ (fun s hm=>hsg _ hmem s hm) (by omega)) ?_
  have hcat:([out,sgs 32 ((a.take g[i].f0.toNat).drop t),sgs 45 ((a.take (g[i].f0+g[i].f1).toNat).drop g[i].f0.toNat),sgs 43 g[i].f2]:List (List ByteArray)).flatten
    = out++(sgs 32 ((a.take g[i].f0.toNat).drop t)++(sgs 45 ((a.take (g[i].f0+g[i].f1).toNat).drop g[i].f0.toNat)++sgs 43 g[i].f2)):=by simp
  have hL:=congrArg List.length hG2
  simp only [blks,blkLines,List.length_append] at hL
  simp only [slices_Concat_string_string.f,hcat]
  rw [if_pos (by simp only [List.length_append];omega)]
  simp only [Option.bind_some]
  rw [show g[i].f0+g[i].f1=(((g[i].f0+g[i].f1).toNat:Nat):Int) by omega]
  refine ih (i+1) (g[i].f0+g[i].f1).toNat (g[i].f0+g[i].f1+1) en _ (by omega) (by omega) (by omega) (by omega) (by omega) ho' hen ?_ ?_ (by omega)
  ·cases hq:g.drop (i+1) with
   | nil=>rw [hq] at hm;simp only [endE] at hm;show (en:Int)=_;omega
   | cons p l=>rw [hq] at hm;exact hm
  rw [← hG2]
  simp only [blks,blkLines,List.append_assoc,Int.toNat_natCast]
theorem Group_ev (a:List ByteArray) (p:Ed) (l:List Ed) (ar more fr:Int) (ha:a.length≤274877906944) (hg:l.length≤274877906944) (hsa:∀ s ∈ a,s.size≤4611686018427387904) (hsg:∀ e ∈ p :: l,∀ s ∈ e.f2,s.size≤4611686018427387904)
  (har:0≤ar) (har2:ar≤1000) (hm0:-4398046511104≤more) (hm1:more≤4398046511104) (hf:0≤fr) (ho:okFrom fr a.length (p :: l)=true) (hi:insE (p :: l)≤274877906944) (hdf:diffE (p :: l)≤274877906944) :
  Ev (fun k=>hunk_group.f k a (p :: l) ar more) ((hunkOf a ar more p l).f0,(hunkOf a ar more p l).f1,(hunkOf a ar more p l).f2,(hunkOf a ar more p l).f3,(hunkOf a ar more p l).f4):=by
 have hlast:=okFrom_last l p fr ho
 obtain ⟨c1,c2,c3,c4,c5,ho'⟩:=okFrom_cons ho
 have ho0:okFrom p.f0 a.length (p :: l)=true:=by
  simp only [okFrom,Bool.and_eq_true,decide_eq_true_eq]
  exact ⟨⟨Int.le_refl _,c2,c3,c4,c5⟩,ho'⟩
 have hft:(fromH p ar:Int)≤p.f0:=by unfold fromH;omega
 have hco:=blks_counts a l p p.f0 (fromH p ar) hft ho0
 have htl:=tail_len a ar p l fr har hf ho
 have hLen:((p :: l:List Ed).length:Int)=(l.length:Int)+1:=by simp
 have w0:wrap64 (((p :: l:List Ed).length:Int) - 1)=((l.length:Nat):Int):=by rw [w_in (by omega) (by omega)];omega
 have hlt:l.length<(p :: l).length:=by simp
 have hge:=endE_get l p
 have hr0:rd_T53 (p :: l) 0=p:=rfl
 unfold hunk_group.f
 simp only [w0,if_pos (show 0≤((l.length:Nat):Int) by omega),if_pos (show ((l.length:Nat):Int)<(((p :: l).length:Nat):Int) by omega),if_pos (show 0<(((p :: l).length:Nat):Int) by omega),rdE_at hlt,hr0]
 rw [w_in (x:=(p :: l)[l.length].f0+(p :: l)[l.length].f1) (by omega) (by omega),← hge,w_in (x:=endE p l+ar) (by omega) (by omega),w_in (x:=p.f0 - ar) (by omega) (by omega)]
 have e1:mx 0 (p.f0 - ar)=(fromH p ar:Int):=by unfold mx fromH;omega
 have e2:mn (a.length:Int) (endE p l+ar)=(toH a p l ar:Int):=by unfold mn toH;omega
 rw [e1,e2,w_in (x:=(fromH p ar:Int)+more) (by omega) (by omega)]
 have hlen:(linesH a ar p l).length≤1099511627776:=by
  have h:=blkLines_len (blks a (fromH p ar) (p :: l)) ((a.take (toH a p l ar)).drop (endE p l).toNat)
  unfold linesH
  omega
 have hcn:=cntL_linesH a ar p l fr har hf ho
 have h:=Group_l0 a (p :: l) (by omega) (by simp only [List.length_cons];omega) hsa hsg (fromH p ar) 0 (fromH p ar+more) 0 (toH a p l ar) (by omega) (linesH a ar p l) hlen _ hcn _ 0 (fromH p ar) p.f0 (endE p l).toNat [] rfl (by omega) (by omega) hft (by omega) ho0 (by omega) (by show (_:Int)=endE p l;omega) rfl (by rw [List.drop_zero];omega)
 exact h
end Go.Proofs.Ytoaijganmfijmaa.Pr
-- shrunk
/-
What package hunk's Make makes of edits, as plain Lean, and what its hunks tell.
-/
namespace Go.Proofs.Ytoaijganmfijmaa.Pr
open Go.RowKit Go.Proofs.YtoaijganmfijmaaW.PrintWords Go.Proofs.YtoaijganmfijmaaW.PrintLast Go.Proofs.YtoaijganmfijmaaW.PrintMore
def grp (ar:Int) (p:Ed):List Ed→List Ed × List Ed
 | []=>([],[])
 | e :: l=>if e.f0 - p.f0 - p.f1≤2 * ar then (e :: (grp ar e l).1,(grp ar e l).2) else ([],e :: l)
theorem grp_app (ar:Int):∀ (l:List Ed) (p:Ed),(grp ar p l).1++(grp ar p l).2=l
 | [],p=>rfl
 | e :: l,p=>by
  have ih:=grp_app ar l e
  rw [grp]
  split
  ·show e :: ((grp ar e l).1++(grp ar e l).2)=_
   rw [ih]
  ·rfl
theorem grp_len (ar:Int) (l:List Ed) (p:Ed):(grp ar p l).2.length≤l.length:=by
 have h:=congrArg List.length (grp_app ar l p)
 rw [List.length_append] at h
 omega
def makeH (a:List ByteArray) (ar:Int) (more:Int):List Ed→List Hk
 | []=>[]
 | p :: l=>hunkOf a ar more p (grp ar p l).1 :: makeH a ar (more+diffE (p :: (grp ar p l).1)) (grp ar p l).2
termination_by l=>l.length
decreasing_by
 have:=grp_len ar l p
 simp only [List.length_cons];omega
theorem okFrom_split {many:Int}:∀ (l:List Ed) (p:Ed) (y:List Ed) (fr:Int),okFrom fr many (p :: (l++y))=true→okFrom fr many (p :: l)=true∧okFrom (endE p l+1) many y=true
 | [],p,y,fr,h=>by
  obtain ⟨c1,c2,c3,c4,c5,h'⟩:=okFrom_cons h
  refine ⟨?_,h'⟩
  simp only [okFrom,Bool.and_true,decide_eq_true_eq]
  exact ⟨c1,c2,c3,c4,c5⟩
 | e :: l,p,y,fr,h=>by
  obtain ⟨c1,c2,c3,c4,c5,h'⟩:=okFrom_cons h
  have ih:=okFrom_split l e y _ h'
  refine ⟨?_,ih.2⟩
  rw [okFrom,ih.1,Bool.and_true,decide_eq_true_eq]
  exact ⟨c1,c2,c3,c4,c5⟩
def delE:List Ed→Int
 | []=>0
 | e :: l=>e.f1+delE l
theorem diffE_eq:∀ l,diffE l=(insE l:Int) - delE l
 | []=>rfl
 | e :: l=>by have:=diffE_eq l;simp only [diffE,insE,delE];push_cast;omega
theorem insE_app:∀ x y,insE (x++y)=insE x+insE y
 | [],y=>by simp [insE]
 | e :: x,y=>by have:=insE_app x y;simp only [List.cons_append,insE];omega
theorem delE_app:∀ x y,delE (x++y)=delE x+delE y
 | [],y=>by simp [delE]
 | e :: x,y=>by have:=delE_app x y;simp only [List.cons_append,delE];omega
theorem delE_le {many:Int}:∀ (l:List Ed) (p:Ed) (fr:Int),okFrom fr many (p :: l)=true→0≤delE (p :: l)∧delE (p :: l)≤endE p l - p.f0
 | [],p,fr,h=>by obtain ⟨c1,c2,c3,c4,c5,h'⟩:=okFrom_cons h;simp only [delE,endE];omega
 | e :: l,p,fr,h=>by
  obtain ⟨c1,c2,c3,c4,c5,h'⟩:=okFrom_cons h
  have ih:=delE_le l e _ h'
  obtain ⟨d1,_,_,_,_,_⟩:=okFrom_cons h'
  rw [delE,endE];omega
theorem delE_nonneg {many fr:Int} (l:List Ed) (h:okFrom fr many l=true):0≤delE l:=by
 cases l with
 | nil=>simp [delE]
 | cons p l=>exact (delE_le l p fr h).1
theorem okFrom_each {many:Int}:∀ (l:List Ed) (fr:Int),okFrom fr many l=true→∀ e ∈ l,fr≤e.f0∧0≤e.f1∧e.f0+e.f1≤many
 | [],fr,h,e,he=>by cases he
 | p :: l,fr,h,e,he=>by
  obtain ⟨c1,c2,c3,c4,c5,h'⟩:=okFrom_cons h
  rcases List.mem_cons.1 he with rfl|he
  ·omega
  ·have:=okFrom_each l _ h' e he;omega
theorem Make_l1 (a:List ByteArray) (l:List Ed) (ar more:Int) (out:List Hk) (har:0≤ar) (har2:ar≤1000) (hl:l.length≤1099511627776) (hb:∀ e ∈ l,0≤e.f0∧0≤e.f1∧e.f0+e.f1≤1099511627776) (r:List Hk × Int) :
  ∀ (d n:Nat) (hd:l.length - n=d) (h1:1≤n) (h2:n≤l.length),
  (∀ m,m=n+(grp ar (l[n - 1]'(by omega)) (l.drop n)).1.length→m≤l.length→Ev (fun k=>(hunk_group.f k a (l.take m) ar more).bind fun bt=>(if out.length<2513169434916 then (hunk_Make.l0 k a (l.drop m) ar (out++[(⟨bt.1,bt.2.1,bt.2.2.1,bt.2.2.2.1,bt.2.2.2.2⟩:Hk)]) (wrap64 (more+(wrap64 (bt.2.2.2.1 - bt.2.1))))) else none)) r) →
  Ev (fun k=>hunk_Make.l1 k a l ar out more (n:Int)) r:=by
 intro d
 induction d with
 | zero =>
  intro n hd h1 h2 rest
  refine Ev.step (fun _=>hunk_Make.l1.eq_2 ..) ?_
  simp only [if_neg (show ¬ (n:Int)<(l.length:Int) by omega),if_pos (show 0≤(n:Int) by omega),if_pos (show (n:Int)≤(l.length:Int) by omega),Int.toNat_natCast]
  refine rest n ?_ h2
  rw [List.drop_of_length_le (by omega)]
  rfl
 | succ d ih =>
  intro n hd h1 h2 rest
  refine Ev.step (fun _=>hunk_Make.l1.eq_2 ..) ?_
  have h0:n<l.length:=by omega
  have hq:n - 1<l.length:=by omega
  have b1:=hb _ (List.getElem_mem h0)
  have b2:=hb _ (List.getElem_mem hq)
  have wn:wrap64 ((n:Int) - 1)=((n - 1:Nat):Int):=by rw [w_in (by omega) (by omega)];omega
  have w2:wrap64 (2 * ar)=2 * ar:=w_in (by omega) (by omega)
  simp only [if_pos (show (n:Int)<(l.length:Int) by omega),if_pos (show 0≤(n:Int) by omega),wn,if_pos (show 0≤((n - 1:Nat):Int) by omega),if_pos (show ((n - 1:Nat):Int)<(l.length:Int) by omega),rdE_at h0,rdE_at hq,w2,w_succ h0 (show l.length≤4611686018427387904 by omega),if_pos (show (n:Int)≤(l.length:Int) by omega),Int.toNat_natCast]
  rw [w_in (x:=l[n].f0 - l[n - 1].f0) (by omega) (by omega),w_in (x:=l[n].f0 - l[n - 1].f0 - l[n - 1].f1) (by omega) (by omega)]
  by_cases c:l[n].f0 - l[n - 1].f0 - l[n - 1].f1≤2 * ar
  ·simp only [if_pos c]
   refine ih (n+1) (by omega) (by omega) (by omega) (fun m hm hm2=>rest m ?_ hm2)
   rw [List.drop_eq_getElem_cons h0,grp,if_pos c]
   simp only [Nat.add_sub_cancel] at hm
   simp only [List.length_cons]
   omega
  simp only [if_neg c]
  refine rest n ?_ h2
  rw [List.drop_eq_getElem_cons h0,grp,if_neg c]
  rfl
theorem insE_mem':∀ (m:List Ed) (e:Ed),e ∈ m→e.f2.length≤insE m
 | x :: m,e,h=>by
  rcases List.mem_cons.1 h with rfl|h
  ·simp only [insE];omega
  ·have:=insE_mem' m e h;simp only [insE];omega
theorem Make_l0 (a:List ByteArray) (ar:Int) (ha:a.length≤274877906944) (hsa:∀ s ∈ a,s.size≤4611686018427387904) (har:0≤ar) (har2:ar≤1000) :
  ∀ (N:Nat) (l:List Ed) (more fr:Int) (out:List Hk),l.length≤N→l.length≤274877906944→(∀ e ∈ l,∀ s ∈ e.f2,s.size≤4611686018427387904)→0≤fr→okFrom fr a.length l=true→insE l≤274877906944 →
   more+insE l≤1099511627776 → -1099511627776≤more - delE l→out.length+l.length≤1099511627776 →
  Ev (fun k=>hunk_Make.l0 k a l ar out more) (out++makeH a ar more l,0):=by
 intro N
 induction N with
 | zero =>
  intro l more fr out hN hl hs hf ho hi hm1 hm2 hout
  have e:l=[]:=List.eq_nil_of_length_eq_zero (by omega)
  subst e
  refine Ev.step (fun _=>hunk_Make.l0.eq_2 ..) ?_
  simp only [List.length_nil,if_neg (show ¬ ((0:Nat):Int) > 0 by omega),makeH,List.append_nil]
  exact Ev.now _
 | succ N ih =>
  intro l more fr out hN hl hs hf ho hi hm1 hm2 hout
  cases l with
  | nil =>
   refine Ev.step (fun _=>hunk_Make.l0.eq_2 ..) ?_
   simp only [List.length_nil,if_neg (show ¬ ((0:Nat):Int) > 0 by omega),makeH,List.append_nil]
   exact Ev.now _
  | cons p l =>
   have happ:=grp_app ar l p
   have hsp:=okFrom_split (many:=a.length) (grp ar p l).1 p (grp ar p l).2 fr (by rw [happ];exact ho)
   have hlen:=congrArg List.length happ
   have hin:insE (p :: l)=insE (p :: (grp ar p l).1)+insE (grp ar p l).2:=by rw [← insE_app,List.cons_append,happ]
   have hde:delE (p :: l)=delE (p :: (grp ar p l).1)+delE (grp ar p l).2:=by rw [← delE_app,List.cons_append,happ]
   have hd1:=delE_le _ _ _ hsp.1
   have hd2:=delE_nonneg _ hsp.2
   have hdf:=diffE_eq (p :: (grp ar p l).1)
   have hla:=okFrom_last _ _ _ hsp.1
   rw [List.length_append] at hlen
   simp only [List.length_cons] at hN hl hout
   refine Ev.step (fun _=>hunk_Make.l0.eq_2 ..) ?_
   simp only [if_pos (show (((p :: l:List Ed).length:Nat):Int) > 0 by simp only [List.length_cons];omega)]
   refine Make_l1 a (p :: l) ar more out har har2 (by simp only [List.length_cons];omega) (fun e he=>by have:=okFrom_each _ _ ho e he;omega) _ _ 1 rfl (Nat.le_refl _) (by simp only [List.length_cons];omega) ?_
   intro m hm hm2
   have hm':m=1+(grp ar p l).1.length:=hm
   have hta:(p :: l).take m=p :: (grp ar p l).1:=by
    rw [hm',Nat.add_comm,List.take_succ_cons]
    congr 1
    have h:=List.take_left (l₁:=(grp ar p l).1) (l₂:=(grp ar p l).2)
    rwa [happ] at h
   have htd:(p :: l).drop m=(grp ar p l).2:=by
    rw [hm',Nat.add_comm,List.drop_succ_cons]
    have h:=List.drop_left (l₁:=(grp ar p l).1) (l₂:=(grp ar p l).2)
    rwa [happ] at h
   simp only [hta,htd]
   have hmem:∀ e ∈ p :: (grp ar p l).1,e ∈ p :: l:=fun e he=>by
    rw [← happ]
    rcases List.mem_cons.1 he with rfl|he
    ·simp
    simp [he]
   have hmem2:∀ e ∈ (grp ar p l).2,e ∈ p :: l:=fun e he=>by
    rw [← happ];simp [he]
   refine Ev.bind (Group_ev a p (grp ar p l).1 ar more fr ha (by omega) hsa (fun e he=>hs e (hmem e he)) har har2 (by omega) (by omega) hf hsp.1 (by omega) (by omega)) ?_
   simp only [if_pos (show out.length<2513169434916 by omega)]
   have hbn:(hunkOf a ar more p (grp ar p l).1).f3 - (hunkOf a ar more p (grp ar p l).1).f1=diffE (p :: (grp ar p l).1):=by simp only [hunkOf];omega
   rw [hbn,w_in (x:=diffE (p :: (grp ar p l).1)) (by omega) (by omega),w_in (x:=more+diffE (p :: (grp ar p l).1)) (by omega) (by omega)]
   have h:=ih (grp ar p l).2 (more+diffE (p :: (grp ar p l).1)) (endE p (grp ar p l).1+1) (out++[hunkOf a ar more p (grp ar p l).1]) (by omega) (by omega) (fun e he=>hs e (hmem2 e he)) (by omega) hsp.2 (by omega) (by omega) (by omega) (by rw [List.length_append,List.length_singleton];omega)
   rw [makeH]
   rw [List.append_assoc] at h
   exact h
theorem Make_ev (a:List ByteArray) (l:List Ed) (ar:Int) (ha:a.length≤274877906944) (hl:l.length≤274877906944) (hsa:∀ s ∈ a,s.size≤4611686018427387904) (hs:∀ e ∈ l,∀ s ∈ e.f2,s.size≤4611686018427387904)
  (har:0≤ar) (har2:ar≤1000) (ho:okFrom 0 a.length l=true) (hi:insE l≤274877906944):Ev (fun k=>hunk_Make.f k a l ar) (makeH a ar 0 l,0):=by
 unfold hunk_Make.f
 have hr:=Right_ev (a.length:Int) l (by omega) (by omega) (by omega)
 rw [ho] at hr
 refine Ev.bind hr ?_
 simp only [if_true,if_neg (show ¬ ar<0 by omega),decide_eq_false (show ¬ ar > 1000 by omega)]
 refine Ev.step (fun _=>hunk_Make.j0.eq_2 ..) ?_
 simp only [Bool.false_eq_true,if_false]
 have hde:delE l≤a.length:=by
  cases l with
  | nil=>simp [delE]
  | cons p l=>have h1:=delE_le l p 0 ho;have h2:=okFrom_last l p 0 ho;obtain ⟨c1,_,_,_,_,_⟩:=okFrom_cons ho;omega
 have h:=Make_l0 a ar ha hsa har har2 l.length l 0 0 [] (Nat.le_refl _) hl hs (by omega) ho hi (by omega) (by omega) (by simp;omega)
 exact h
end Go.Proofs.Ytoaijganmfijmaa.Pr
-- shrunk
/-
Playing and turning edits: plain facts on lists, no program in sight.
-/
namespace Go.Proofs.Ytoaijganmfijmaa.Pr
def playR (s:List ByteArray) (t:Int):List Ed→List ByteArray
 | []=>s
 | e :: l=>s.take (e.f0 - t).toNat++e.f2++playR (s.drop (e.f0 - t+e.f1).toNat) (e.f0+e.f1) l
theorem playFrom_R (a:List ByteArray):∀ (l:List Ed) (fr:Int) (t:Nat),(t:Int)≤fr→okFrom fr a.length l=true→playFrom a t l=playR (a.drop t) t l
 | [],fr,t,h,ho=>rfl
 | e :: l,fr,t,h,ho=>by
  obtain ⟨c1,c2,c3,c4,_,ho'⟩:=okFrom_cons ho
  simp only [playFrom,playR]
  rw [playFrom_R a l _ (e.f0+e.f1).toNat (by omega) ho',List.drop_take,List.drop_drop,Int.toNat_of_nonneg (by omega),show e.f0.toNat - t=(e.f0 - (t:Int)).toNat by omega,show t+(e.f0 - (t:Int)+e.f1).toNat=(e.f0+e.f1).toNat by omega]
theorem insE_le:∀ l:List Ed,(insE l:Int)≤sizeE l
 | []=>by simp [insE,sizeE]
 | e :: l=>by have:=insE_le l;simp only [insE,sizeE];push_cast;omega
end Go.Proofs.Ytoaijganmfijmaa.Pr
-- shrunk
/-
What is between two lists: it is right, played it is the other one; its size: plain facts on lists.
-/
namespace Go.Proofs.Ytoaijganmfijmaa.Pr
def edG:Option Ed→Int→List Step→List Ed
 | none,_,[]=>[]
 | some e,_,[]=>[e]
 | none,t,.keep :: r=>edG none (t+1) r
 | some e,t,.keep :: r=>e :: edG none (t+1) r
 | none,t,.del :: r=>edG (some ⟨t,1,[]⟩) (t+1) r
 | some e,t,.del :: r=>edG (some ⟨e.f0,e.f1+1,e.f2⟩) (t+1) r
 | none,t,.ins s :: r=>edG (some ⟨t,0,[s]⟩) t r
 | some e,t,.ins s :: r=>edG (some ⟨e.f0,e.f1,e.f2++[s]⟩) t r
theorem edLast_snoc (out:List Ed) (e:Ed):edLast (out++[e])=e:=by simp [edLast]
theorem addDel_snoc (out:List Ed) (e:Ed):addDel (out++[e])=out++[⟨e.f0,e.f1+1,e.f2⟩]:=by
 rw [addDel,edLast_snoc]
 simp
theorem addIns_snoc (s:ByteArray) (out:List Ed) (e:Ed):addIns s (out++[e])=out++[⟨e.f0,e.f1,e.f2++[s]⟩]:=by
 rw [addIns,edLast_snoc]
 simp
theorem edits_edG:∀ (r:List Step) (t:Int) (out:List Ed),edits t false out r=out++edG none t r∧∀ e,edits t true (out++[e]) r=out++edG (some e) t r
 | [],t,out=>⟨by simp [edits,edG],fun e=>by simp [edits,edG]⟩
 | .keep :: r,t,out=>⟨by rw [edits,edG];exact (edits_edG r (t+1) out).1,fun e=>by rw [edits,edG,(edits_edG r (t+1) (out++[e])).1];simp⟩
 | .del :: r,t,out=>⟨by
   rw [edits,edG,opened,if_neg (by simp),addDel_snoc]
   exact (edits_edG r (t+1) out).2 _,fun e=>by
   rw [edits,edG,opened,if_pos rfl,addDel_snoc]
   exact (edits_edG r (t+1) out).2 _⟩
 | .ins s :: r,t,out=>⟨by
   rw [edits,edG,opened,if_neg (by simp),addIns_snoc]
   exact (edits_edG r t out).2 _,fun e=>by
   rw [edits,edG,opened,if_pos rfl,addIns_snoc]
   exact (edits_edG r t out).2 _⟩
def app:List Step→List ByteArray→List ByteArray
 | [],s=>s
 | .keep :: r,x :: s=>x :: app r s
 | .keep :: r,[]=>app r []
 | .del :: r,_ :: s=>app r s
 | .del :: r,[]=>app r []
 | .ins y :: r,s=>y :: app r s
def cnt:List Step→Nat
 | []=>0
 | .keep :: r=>cnt r+1
 | .del :: r=>cnt r+1
 | .ins _ :: r=>cnt r
def chg:List Step→Nat
 | []=>0
 | .keep :: r=>chg r
 | .del :: r=>chg r+1
 | .ins _ :: r=>chg r+1
theorem play_edG:∀ (r:List Step) (pre s:List ByteArray) (t:Int),cnt r≤s.length →
  playR (pre++s) t (edG none (t+pre.length) r)=pre++app r s ∧
  ∀ (e:Ed) (D:List ByteArray),e.f0=t+pre.length→e.f1=D.length→playR (pre++D++s) t (edG (some e) (t+pre.length+D.length) r)=pre++e.f2++app r s
 | [],pre,s,t,h=>⟨by simp [edG,playR,app],fun e D h0 h1=>by
   simp only [edG,playR,app]
   rw [show (e.f0 - t).toNat=pre.length by omega,show (e.f0 - t+e.f1).toNat=(pre++D).length by rw [List.length_append];omega,List.drop_left,List.append_assoc pre D s,List.take_left]⟩
 | .keep :: r,pre,[],t,h=>by simp [cnt] at h
 | .keep :: r,pre,x :: s,t,h=>by
  have hc:cnt r≤s.length:=by simp [cnt] at h;exact h
  refine ⟨?_,fun e D h0 h1=>?_⟩
  ·have h2:=(play_edG r (pre++[x]) s t hc).1
   rw [List.length_append,List.length_singleton] at h2
   rw [edG,app,show t+(pre.length:Int)+1=t+((pre.length+1:Nat):Int) by omega]
   simpa using h2
  ·rw [edG,app]
   simp only [playR]
   have h2:=(play_edG r [x] s (e.f0+e.f1) hc).1
   rw [show (e.f0 - t).toNat=pre.length by omega,show (e.f0 - t+e.f1).toNat=(pre++D).length by rw [List.length_append];omega,List.drop_left,List.append_assoc pre D,List.take_left]
   rw [show t+(pre.length:Int)+(D.length:Int)+1=e.f0+e.f1+(([x]:List ByteArray).length:Int) by simp;omega]
   have h3:playR (x :: s) (e.f0+e.f1) (edG none (e.f0+e.f1+(([x]:List ByteArray).length:Int)) r)=x :: app r s:=by simpa using h2
   rw [h3]
 | .del :: r,pre,[],t,h=>by simp [cnt] at h
 | .del :: r,pre,x :: s,t,h=>by
  have hc:cnt r≤s.length:=by simp [cnt] at h;exact h
  refine ⟨?_,fun e D h0 h1=>?_⟩
  ·have h2:=(play_edG r pre s t hc).2 ⟨t+pre.length,1,[]⟩ [x] rfl (by simp)
   rw [edG,app]
   simpa using h2
  ·have h2:=(play_edG r pre s t hc).2 ⟨e.f0,e.f1+1,e.f2⟩ (D++[x]) h0 (by simp [h1])
   rw [edG,app]
   rw [List.length_append,List.length_singleton] at h2
   rw [show t+(pre.length:Int)+(D.length:Int)+1=t+(pre.length:Int)+((D.length+1:Nat):Int) by omega]
   simpa using h2
 | .ins y :: r,pre,s,t,h=>by
  have hc:cnt r≤s.length:=by simpa [cnt] using h
  refine ⟨?_,fun e D h0 h1=>?_⟩
  ·have h2:=(play_edG r pre s t hc).2 ⟨t+pre.length,0,[y]⟩ [] rfl (by simp)
   rw [edG,app]
   simpa using h2
  ·have h2:=(play_edG r pre s t hc).2 ⟨e.f0,e.f1,e.f2++[y]⟩ D h0 h1
   rw [edG,app]
   simpa using h2
theorem ok_edG (many:Int):∀ (r:List Step) (fr t:Int),t+cnt r≤many →
  (fr≤t→okFrom fr many (edG none t r)=true)∧∀ e:Ed,fr≤e.f0→0≤e.f1→¬ (e.f1=0∧e.f2=[])→e.f0+e.f1=t→okFrom fr many (edG (some e) t r)=true
 | [],fr,t,h=>⟨fun _=>rfl,fun e h0 h1 h2 h3=>by
   simp only [cnt] at h
   simp only [edG,okFrom,Bool.and_true]
   exact decide_eq_true ⟨h0,h1,by omega,by omega,h2⟩⟩
 | .keep :: r,fr,t,h=>⟨fun hf=>by
   simp only [cnt] at h
   rw [edG]
   exact (ok_edG many r fr (t+1) (by push_cast at h;omega)).1 (by omega),fun e h0 h1 h2 h3=>by
   simp only [cnt] at h
   simp only [edG,okFrom]
   rw [decide_eq_true ⟨h0,h1,by push_cast at h;omega,by push_cast at h;omega,h2⟩,Bool.true_and]
   exact (ok_edG many r _ (t+1) (by push_cast at h;omega)).1 (by omega)⟩
 | .del :: r,fr,t,h=>⟨fun hf=>by
   simp only [cnt] at h
   rw [edG]
   exact (ok_edG many r fr (t+1) (by push_cast at h;omega)).2 ⟨t,1,[]⟩ hf (by simp) (by simp) rfl,fun e h0 h1 h2 h3=>by
   simp only [cnt] at h
   rw [edG]
   exact (ok_edG many r fr (t+1) (by push_cast at h;omega)).2 ⟨e.f0,e.f1+1,e.f2⟩ h0 (by show 0≤e.f1+1;omega) (fun hh=>by have:e.f1+1=0:=hh.1;omega) (by show e.f0+(e.f1+1)=t+1;omega)⟩
 | .ins y :: r,fr,t,h=>⟨fun hf=>by
   simp only [cnt] at h
   rw [edG]
   exact (ok_edG many r fr t h).2 ⟨t,0,[y]⟩ hf (by simp) (by simp) (by simp),fun e h0 h1 h2 h3=>by
   simp only [cnt] at h
   rw [edG]
   exact (ok_edG many r fr t h).2 ⟨e.f0,e.f1,e.f2++[y]⟩ h0 h1 (by simp) h3⟩
theorem size_edG:∀ (r:List Step) (t:Int),sizeE (edG none t r)=chg r∧∀ e:Ed,0≤e.f1→sizeE (edG (some e) t r)=e.f1+e.f2.length+chg r
 | [],t=>⟨by simp [edG,sizeE,chg],fun e h=>by simp only [edG,sizeE,chg];omega⟩
 | .keep :: r,t=>⟨by rw [edG,chg];exact (size_edG r _).1,fun e h=>by rw [edG,chg,sizeE,(size_edG r _).1];omega⟩
 | .del :: r,t=>⟨by rw [edG,chg,(size_edG r _).2 _ (by simp)];simp;omega,fun e h=>by rw [edG,chg,(size_edG r _).2 _ (by show 0≤e.f1+1;omega)];push_cast;omega⟩
 | .ins y :: r,t=>⟨by rw [edG,chg,(size_edG r _).2 _ (by simp)];simp;omega,fun e h=>by rw [edG,chg,(size_edG r _).2 ⟨e.f0,e.f1,e.f2++[y]⟩ h];simp;omega⟩
theorem steps_app (E:List ByteArray):∀ x y:List ByteArray,app (steps x y) (x++E)=y++E∧cnt (steps x y)=x.length
 | [],[]=>⟨by simp [steps,app],by simp [steps,cnt]⟩
 | [],y :: ys=>by
  have h:=steps_app E [] ys
  rw [steps]
  exact ⟨by rw [app,h.1];rfl,by rw [cnt,h.2]⟩
 | x :: xs,[]=>by
  have h:=steps_app E xs []
  rw [steps]
  exact ⟨by rw [List.cons_append,app,h.1],by rw [cnt,h.2];rfl⟩
 | x :: xs,y :: ys=>by
  rw [steps]
  by_cases hxy:x=y
  ·have h:=steps_app E xs ys
   rw [if_pos hxy]
   exact ⟨by rw [List.cons_append,app,h.1,hxy];rfl,by rw [cnt,h.2];rfl⟩
  ·rw [if_neg hxy]
   split
   ·have h:=steps_app E xs (y :: ys)
    exact ⟨by rw [List.cons_append,app,h.1],by rw [cnt,h.2];rfl⟩
   ·have h:=steps_app E (x :: xs) ys
    exact ⟨by rw [app,h.1];rfl,by rw [cnt,h.2]⟩
termination_by x y=>x.length+y.length
theorem lcs_nil (x:List ByteArray):lcsLen x []=0:=by cases x<;>simp [lcsLen]
theorem nil_lcs (y:List ByteArray):lcsLen [] y=0:=by simp [lcsLen]
theorem steps_chg:∀ x y:List ByteArray,chg (steps x y)+2 * lcsLen x y=x.length+y.length
 | [],[]=>by simp [steps,chg,lcsLen]
 | [],y :: ys=>by
  have h:=steps_chg [] ys
  rw [steps,chg,nil_lcs]
  rw [nil_lcs] at h
  simp at h ⊢
  omega
 | x :: xs,[]=>by
  have h:=steps_chg xs []
  rw [steps,chg,lcs_nil]
  rw [lcs_nil] at h
  simp at h ⊢
  omega
 | x :: xs,y :: ys=>by
  rw [steps,lcsLen]
  by_cases hxy:x=y
  ·have h:=steps_chg xs ys
   rw [if_pos hxy,if_pos hxy,chg]
   simp only [List.length_cons]
   omega
  ·rw [if_neg hxy,if_neg hxy]
   have h1:=steps_chg xs (y :: ys)
   have h2:=steps_chg (x :: xs) ys
   simp only [List.length_cons] at h1 h2 ⊢
   split
   ·rw [chg];omega
   ·rw [chg];omega
termination_by x y=>x.length+y.length
theorem commonE_le:∀ a b:List ByteArray,common a b≤a.length∧common a b≤b.length∧a.take (common a b)=b.take (common a b)
 | [],b=>by simp [common]
 | x :: xs,[]=>by simp [common]
 | x :: xs,y :: ys=>by
  rw [common]
  by_cases h:x=y
  ·have ih:=commonE_le xs ys
   rw [if_pos h]
   exact ⟨by simp;exact ih.1,by simp;exact ih.2.1,by rw [List.take_succ_cons,List.take_succ_cons,ih.2.2,h]⟩
  ·rw [if_neg h];simp
theorem between_split (a b:List ByteArray):∃ F x y E,a=F++(x++E)∧b=F++(y++E)∧between a b=midEdits (F.length:Int) x y:=by
 obtain ⟨h1,h2,h3⟩:=commonE_le a b
 generalize ha:a.drop (common a b)=a' 
 generalize hb:b.drop (common a b)=b'
 obtain ⟨g1,g2,g3⟩:=commonE_le a'.reverse b'.reverse
 rw [List.length_reverse] at g1 g2
 have hE:a'.drop (a'.length - common a'.reverse b'.reverse)=b'.drop (b'.length - common a'.reverse b'.reverse):=by
  apply List.reverse_inj.1
  rw [List.reverse_drop,List.reverse_drop,show a'.length - (a'.length - common a'.reverse b'.reverse)=common a'.reverse b'.reverse by omega,show b'.length - (b'.length - common a'.reverse b'.reverse)=common a'.reverse b'.reverse by omega]
  exact g3
 refine ⟨a.take (common a b),a'.take (a'.length - common a'.reverse b'.reverse),b'.take (b'.length - common a'.reverse b'.reverse),a'.drop (a'.length - common a'.reverse b'.reverse),?_,?_,?_⟩
 ·rw [List.take_append_drop,← ha,List.take_append_drop]
 ·rw [hE,List.take_append_drop,h3,← hb,List.take_append_drop]
 rw [between,midOf,endOf,frontOf,ha,hb,List.length_take,Nat.min_eq_left h1]
theorem playR_block (pre x y E:List ByteArray):playR (pre++(x++E)) 0 [⟨(pre.length:Int),(x.length:Int),y⟩]=pre++(y++E):=by
 simp only [playR]
 rw [show ((pre.length:Int) - 0).toNat=pre.length by omega,show ((pre.length:Int) - 0+(x.length:Int)).toNat=(pre++x).length by rw [List.length_append];omega,List.take_left,← List.append_assoc pre x,List.drop_left,List.append_assoc]
theorem mid_ok (F x y E:List ByteArray):okFrom 0 ((F++(x++E)).length:Int) (midEdits (F.length:Int) x y)=true∧playR (F++(x++E)) 0 (midEdits (F.length:Int) x y)=F++(y++E):=by
 rw [midEdits]
 by_cases c1:x=[]∧y=[]
 ·rw [if_pos c1]
  exact ⟨rfl,by rw [c1.1,c1.2];rfl⟩
 rw [if_neg c1]
 by_cases c2:x=[]∨y=[]∨65536<x.length * y.length
 ·rw [if_pos c2]
  refine ⟨?_,playR_block F x y E⟩
  simp only [okFrom,Bool.and_true,List.length_append]
  refine decide_eq_true ⟨by omega,by omega,by push_cast;omega,by push_cast;omega,fun h=>c1 ⟨List.eq_nil_of_length_eq_zero (by have:=h.1;omega),h.2⟩⟩
 rw [if_neg c2,(edits_edG _ _ []).1,List.nil_append]
 have hs:=steps_app E x y
 refine ⟨(ok_edG _ _ 0 _ (by rw [hs.2,List.length_append,List.length_append];push_cast;omega)).1 (by omega),?_⟩
 have h:=(play_edG (steps x y) F (x++E) 0 (by rw [hs.2,List.length_append];omega)).1
 rw [hs.1,Int.zero_add] at h
 exact h
theorem between_ok (a b:List ByteArray):okFrom 0 a.length (between a b)=true∧playFrom a 0 (between a b)=b:=by
 obtain ⟨F,x,y,E,rfl,rfl,e⟩:=between_split a b
 rw [e]
 have h:=mid_ok F x y E
 refine ⟨h.1,?_⟩
 rw [playFrom_R _ _ 0 0 (by omega) h.1,List.drop_zero]
 exact h.2
end Go.Proofs.Ytoaijganmfijmaa.Pr
-- shrunk
/-
Longest common subsequences: what their lengths satisfy. Plain facts on lists.
-/
namespace Go.Proofs.Ytoaijganmfijmaa.Pr
open List (Sublist)
theorem lcs_has:∀ x y:List ByteArray,∃ s:List ByteArray,s.Sublist x∧s.Sublist y∧s.length=lcsLen x y
 | [],y=>⟨[],List.nil_sublist _,List.nil_sublist _,by simp [lcsLen]⟩
 | x :: xs,[]=>⟨[],List.nil_sublist _,List.nil_sublist _,by simp [lcsLen]⟩
 | x :: xs,y :: ys=>by
  rw [lcsLen]
  by_cases h:x=y
  ·obtain ⟨s,h1,h2,h3⟩:=lcs_has xs ys
   rw [if_pos h]
   exact ⟨x :: s,h1.cons_cons x,by rw [h];exact h2.cons_cons y,by simp [h3]⟩
  ·rw [if_neg h]
   rcases Nat.le_total (lcsLen (x :: xs) ys) (lcsLen xs (y :: ys)) with hl|hl
   ·obtain ⟨s,h1,h2,h3⟩:=lcs_has xs (y :: ys)
    exact ⟨s,h1.cons x,h2,by rw [h3];omega⟩
   ·obtain ⟨s,h1,h2,h3⟩:=lcs_has (x :: xs) ys
    exact ⟨s,h1,h2.cons y,by rw [h3];omega⟩
termination_by x y=>x.length+y.length
theorem lcs_most:∀ (x y s:List ByteArray),s.Sublist x→s.Sublist y→s.length≤lcsLen x y
 | [],y,s,h1,h2=>by rw [List.sublist_nil.1 h1];simp
 | x :: xs,[],s,h1,h2=>by rw [List.sublist_nil.1 h2];simp
 | x :: xs,y :: ys,s,h1,h2=>by
  rw [lcsLen]
  by_cases h:x=y
  ·rw [if_pos h]
   match s with
   | []=>simp
   | z :: s' =>
    have g1:s'.Sublist xs:=by
     have:=List.Sublist.tail h1
     simpa using this
    have g2:s'.Sublist ys:=by
     have:=List.Sublist.tail h2
     simpa using this
    have:=lcs_most xs ys s' g1 g2
    simp only [List.length_cons]
    omega
  ·rw [if_neg h]
   cases h1 with
   | cons _ g1 =>
    have:=lcs_most xs (y :: ys) s g1 h2
    omega
   | cons_cons _ g1 =>
    cases h2 with
    | cons _ g2 =>
     have:=lcs_most (x :: xs) ys _ (g1.cons_cons x) g2
     omega
    | cons_cons _ g2=>exact absurd rfl h
termination_by x y=>x.length+y.length
theorem lcs_unique {x y:List ByteArray} {n:Nat} (h1:∃ s:List ByteArray,s.Sublist x∧s.Sublist y∧s.length=n) (h2:∀ s:List ByteArray,s.Sublist x→s.Sublist y→s.length≤n):lcsLen x y=n:=by
 obtain ⟨s,a1,a2,a3⟩:=h1
 obtain ⟨t,b1,b2,b3⟩:=lcs_has x y
 have:=lcs_most x y s a1 a2
 have:=h2 t b1 b2
 omega
theorem lcs_reverse (x y:List ByteArray):lcsLen x.reverse y.reverse=lcsLen x y:=by
 obtain ⟨t,b1,b2,b3⟩:=lcs_has x y
 refine lcs_unique ⟨t.reverse,b1.reverse,b2.reverse,by simpa using b3⟩ (fun s h1 h2=>?_)
 have:=lcs_most x y s.reverse (by have:=h1.reverse;simpa using this) (by have:=h2.reverse;simpa using this)
 simpa using this
theorem lcs_front:∀ (F x y:List ByteArray),lcsLen (F++x) (F++y)=F.length+lcsLen x y
 | [],x,y=>by simp
 | f :: F,x,y=>by rw [List.cons_append,List.cons_append,lcsLen,if_pos rfl,lcs_front F x y,List.length_cons];omega
theorem lcs_end (x y E:List ByteArray):lcsLen (x++E) (y++E)=lcsLen x y+E.length:=by
 rw [← lcs_reverse,List.reverse_append,List.reverse_append,lcs_front,lcs_reverse,List.length_reverse];omega
theorem lcs_le (a b:List ByteArray):lcsLen a b≤a.length∧lcsLen a b≤b.length:=by
 obtain ⟨s,a1,a2,a3⟩:=lcs_has a b
 rw [← a3]
 exact ⟨a1.length_le,a2.length_le⟩
theorem lcs_snoc (x y:List ByteArray) (e f:ByteArray):lcsLen (x++[e]) (y++[f])=if e=f then lcsLen x y+1 else max (lcsLen x (y++[f])) (lcsLen (x++[e]) y):=by
 rw [← lcs_reverse,List.reverse_append,List.reverse_append]
 show lcsLen (e :: x.reverse) (f :: y.reverse)=_
 rw [lcsLen,lcs_reverse]
 rw [show f :: y.reverse=(y++[f]).reverse by simp,show e :: x.reverse=(x++[e]).reverse by simp,lcs_reverse,lcs_reverse]
theorem between_size (a b:List ByteArray) (h:a.length * b.length≤65536):sizeE (between a b)+2 * (lcsLen a b:Int)=a.length+b.length:=by
 obtain ⟨F,x,y,E,rfl,rfl,e⟩:=between_split a b
 rw [e,lcs_front,lcs_end,midEdits]
 have hxy:x.length * y.length≤65536:=Nat.le_trans (Nat.mul_le_mul (by simp only [List.length_append];omega) (by simp only [List.length_append];omega)) h
 simp only [List.length_append]
 by_cases c1:x=[]∧y=[]
 ·rw [if_pos c1,c1.1,c1.2]
  simp [sizeE,lcsLen]
  omega
 rw [if_neg c1]
 by_cases c2:x=[]∨y=[]∨65536<x.length * y.length
 rotate_left
 ·rw [if_neg c2,(edits_edG _ _ []).1,List.nil_append,(size_edG _ _).1]
  have:=steps_chg x y
  push_cast
  omega
 rw [if_pos c2]
 have h0:lcsLen x y=0:=by
  rcases c2 with c|c|c
  ·rw [c,nil_lcs]
  ·rw [c,lcs_nil]
  omega
 rw [h0]
 simp only [sizeE]
 push_cast
 omega
end Go.Proofs.Ytoaijganmfijmaa.Pr
-- shrunk
/-
A list of edits of the call's own, of which the last one is changed: what is known of memory then.
-/
namespace Go.Proofs.Ytoaijganmfijmaa.Pr
open Go.RowKit Go.Proofs.YtoaijganmfijmaaW.PrintWords Go.Proofs.YtoaijganmfijmaaW.PrintLast Go.Proofs.YtoaijganmfijmaaW.PrintMore
theorem edLast_eq (out:List Ed) (j:Int) (hj:j.toNat=out.length - 1):out.getD j.toNat z53=edLast out:=by rw [hj];rfl
theorem own_del {W:World} {base g cap:Nat} {out:List Ed} {j:Int} (hS:Kd.S k53 53 W base (fun _=>True) (.slice (some ⟨g,0,none⟩) out.length cap) out) (hne:out≠[]) (h0:0≤j) (hj:j.toNat=out.length - 1) :
  W.cell? ⟨g,j.toNat * 3+1,none⟩=some (.int .i64 (edLast out).f1)∧W.frozen? ⟨g,j.toNat * 3+1,none⟩=false ∧
   Kd.S k53 53 (W.setCell ⟨g,j.toNat * 3+1,none⟩ (.int .i64 ((edLast out).f1+1))) base (fun _=>True) (.slice (some ⟨g,0,none⟩) out.length cap) (addDel out) ∧
   W.grownBy (W.setCell ⟨g,j.toNat * 3+1,none⟩ (.int .i64 ((edLast out).f1+1))) (some g):=by
 have hl:0<out.length:=List.length_pos_iff.2 hne
 have h1:j<(out.length:Int):=by omega
 have hS':Kd.S k53 53 W base (fun k=>True∧¬ False) (.slice (some ⟨g,0,none⟩) out.length cap) out:=Kd.S_mono hS (fun _ _=>⟨trivial,id⟩)
 obtain ⟨oki,c,hcl,hM,hcc,hfr,hoki,hH⟩:=Kd.S_elem hS' z53 j h0 h1
 rw [edLast_eq out j hj] at hM
 obtain ⟨vi,rfl,hvi⟩:=k53_openM hM
 have hc1:=hcc 1 _ rfl
 obtain ⟨h2,h3⟩:=Kd.S_seg (okg:=fun _=>False) hH h0 h1 (seg:=[.int .i64 ((edLast out).f1+1)]) (j:=1) (show 1+1≤3 by decide) (x':=⟨(edLast out).f0,(edLast out).f1+1,(edLast out).f2⟩)
  (k53_mkM W base oki ⟨(edLast out).f0,(edLast out).f1+1,(edLast out).f2⟩ hvi) (fun k hk=>.inl hk) (fun k hk=>hk.elim)
 exact ⟨hc1,hfr 1,by unfold addDel;rw [← hj];exact Kd.S_mono h2 (fun _ _=>trivial),h3⟩
theorem own_ins {W:World} {base g cap:Nat} {out:List Ed} {j:Int} (s:ByteArray) (hS:Kd.S k53 53 W base (fun _=>True) (.slice (some ⟨g,0,none⟩) out.length cap) out) (hne:out≠[]) (h0:0≤j) (hj:j.toNat=out.length - 1) :
  ∃ (vi:Value) (Ai:Option Addr) (ci:Nat) (oki:Nat→Prop),vi=.slice Ai (edLast out).f2.length ci∧W.cell? ⟨g,j.toNat * 3+2,none⟩=some vi∧Kd.R Kd.string 9 W base oki vi (edLast out).f2∧(∀ k,W.heap.size≤k→oki k)∧(∀ k,vi.ownBlock=some k→k≠g) ∧
   ∀ (W2 w1:World) (v1:Value),Below W.heap.size W W2→W2.grownBy w1 vi.ownBlock→Kd.R Kd.string 9 w1 base oki v1 ((edLast out).f2++[s]) →
    w1.cell? ⟨g,j.toNat * 3+2,none⟩=some vi∧w1.frozen? ⟨g,j.toNat * 3+2,none⟩=false ∧
    Kd.S k53 53 (w1.setCell ⟨g,j.toNat * 3+2,none⟩ v1) base (fun _=>True) (.slice (some ⟨g,0,none⟩) out.length cap) (addIns s out)∧w1.grownBy (w1.setCell ⟨g,j.toNat * 3+2,none⟩ v1) (some g)∧(∃ cells,w1.heap[g]?=some (.cells cells 53 (0,0))):=by
 have hl:0<out.length:=List.length_pos_iff.2 hne
 have h1:j<(out.length:Int):=by omega
 obtain ⟨oki,c,hcl,hM,hcc,hfr,hoki,hH⟩:=Kd.S_elem hS z53 j h0 h1
 rw [edLast_eq out j hj] at hM
 obtain ⟨vi,rfl,hvi⟩:=k53_openM hM
 have hc2:=hcc 2 _ rfl
 obtain ⟨g',cap',e',_,hlt,cells0,hg0⟩:=Kd.S_form hS hl
 have hgg:g'=g:=by injection e' with e' _ _;injection e' with e';injection e' with e';exact e'.symm
 subst hgg
 have hH2:=Kd.H_widen hH
 have hvi2:Kd.R Kd.string 9 W base (fun k=>oki k∨True∧W.heap.size≤k) vi (edLast out).f2:=Kd.R_mono hvi (fun k hk=>.inl hk)
 obtain ⟨Ai,ci,evi⟩:=Kd.R_slice hvi
 refine ⟨vi,Ai,ci,fun k=>oki k∨True∧W.heap.size≤k,evi,hc2,hvi2,fun k hk=>.inr ⟨trivial,hk⟩,fun k hk=>(hoki k (hvi.1 k hk)).2,fun W2 w1 v1 hb hg hR=>?_⟩
 have hne2:∀ k,vi.ownBlock=some k→k≠g':=fun k hk=>(hoki k (hvi.1 k hk)).2
 have hgb:¬ vi.ownBlock=some g':=fun h=>hne2 _ h rfl
 have hlt2:g'<W2.heap.size:=Nat.lt_of_lt_of_le hlt hb.size
 have hcell:w1.heap[g']?=W.heap[g']?:=(hg.block g' hlt2 (fun e=>hgb e.symm)).trans (hb.block g' hlt)
 have hH3:=Kd.H_grown (Kd.H_below hH2 hb) hg (fun k hk=>.inl (hvi.1 k hk))
 obtain ⟨h4,h5⟩:=Kd.H_seg hH3 h0 h1 (seg:=[v1]) (j:=2) (show 2+1≤3 by decide) (by intro q hq;simp at hq;subst hq;exact (Kd.R_val hR).2)
 have hokne:∀ k,(oki k∨True∧W.heap.size≤k)→k≠g':=by
  rintro k (hk|hk)
  ·exact (hoki k hk).2
  omega
 refine ⟨by rw [← hc2];exact World.cell?_of_block hcell,by rw [← hfr 2];exact World.frozen?_of_block hcell,?_,h5,⟨cells0,hcell.trans hg0⟩⟩
 unfold addIns
 rw [← hj]
 refine Kd.H_back h4 (okp:=fun k=>oki k∨True∧W.heap.size≤k) ?_ (fun _ hk=>hk)
 exact k53_mkM _ base _ ⟨(edLast out).f0,(edLast out).f1,(edLast out).f2++[s]⟩ (Kd.R_far hR (p:=⟨g',j.toNat * 3+2,none⟩) hokne v1)
end Go.Proofs.Ytoaijganmfijmaa.Pr
-- shrunk
