/-
Several plain texts in one.
-/
import Derived.Test.YtoaijganmfijmaaK1
import Derived.Test.YtoaijganmfijmaaD5
import Derived.Test.YtoaijganmfijmaaD6a
import Derived.Test.YtoaijganmfijmaaK0
set_option linter.unusedVariables false
set_option linter.unusedSimpArgs false
/-
What package hunk makes of edits: group and Make, as plain Lean.
-/
namespace Go.Proofs.Ytoaijganmfijmaa.Pr
open Go.RowKit Go.Proofs.YtoaijganmfijmaaW.PrintWords Go.Proofs.YtoaijganmfijmaaW.PrintLast Go.Proofs.YtoaijganmfijmaaW.PrintMore
abbrev Hk:=S41
def blks (a:List ByteArray) (t:Nat):List Ed→List Blk
 | []=>[]
 | e :: l=>⟨(a.take e.f0.toNat).drop t,(a.take (e.f0+e.f1).toNat).drop e.f0.toNat,e.f2⟩ :: blks a (e.f0+e.f1).toNat l
def endE (p:Ed):List Ed→Int
 | []=>p.f0+p.f1
 | e :: l=>endE e l
def diffE:List Ed→Int
 | []=>0
 | e :: l=>((e.f2.length:Int) - e.f1)+diffE l
theorem okFrom_last {many:Int}:∀ (l:List Ed) (p:Ed) (fr:Int),okFrom fr many (p :: l)=true→fr≤endE p l∧p.f0+p.f1≤endE p l∧endE p l≤many
 | [],p,fr,h=>by obtain ⟨c1,c2,c3,c4,_,_⟩:=okFrom_cons h;simp only [endE];omega
 | e :: l,p,fr,h=>by
  obtain ⟨c1,c2,c3,c4,_,h'⟩:=okFrom_cons h
  have:=okFrom_last l e _ h'
  simp only [endE];omega
theorem endE_get:∀ (l:List Ed) (p:Ed),endE p l=((p :: l)[l.length]'(by simp)).f0+((p :: l)[l.length]'(by simp)).f1
 | [],p=>rfl
 | e :: l,p=>by have:=endE_get l e;simpa [endE] using this
theorem blks_ok (a:List ByteArray):∀ (l:List Ed) (fr:Int) (t:Nat) (first:Bool),(t:Int)≤fr→(first=true∨(t:Int)<fr)→okFrom fr a.length l=true→BOk first (blks a t l)
 | [],fr,t,first,h,hf,ho=>trivial
 | e :: l,fr,t,first,h,hf,ho=>by
  obtain ⟨c1,c2,c3,c4,c5,ho'⟩:=okFrom_cons ho
  refine ⟨?_,?_,blks_ok a l _ _ false (by omega) (Or.inr (by omega)) ho'⟩
  ·by_cases hi:e.f2=[]
   ·left
    intro hd
    have h2:=congrArg List.length hd
    simp only [List.length_drop,List.length_take,List.length_nil] at h2
    exact c5 ⟨by omega,hi⟩
   ·exact Or.inr hi
  ·rcases hf with hf|hf
   ·exact Or.inl hf
   ·right
    intro hk
    have h2:=congrArg List.length hk
    simp only [List.length_drop,List.length_take,List.length_nil] at h2
    omega
theorem blks_counts (a:List ByteArray):∀ (l:List Ed) (p:Ed) (fr:Int) (t:Nat),(t:Int)≤fr→okFrom fr a.length (p :: l)=true →
  (oldN (blks a t (p :: l)):Int)=endE p l - t∧(newN (blks a t (p :: l)):Int)=endE p l - t+diffE (p :: l)
 | [],p,fr,t,h,ho=>by
  obtain ⟨c1,c2,c3,c4,c5,ho'⟩:=okFrom_cons ho
  simp only [blks,oldN,newN,endE,diffE,List.length_drop,List.length_take]
  omega
 | e :: l,p,fr,t,h,ho=>by
  obtain ⟨c1,c2,c3,c4,c5,ho'⟩:=okFrom_cons ho
  have ih:=blks_counts a l e _ (p.f0+p.f1).toNat (by omega) ho'
  rw [blks]
  simp only [oldN,newN,endE,List.length_drop,List.length_take]
  rw [diffE]
  omega
def fromH (p:Ed) (ar:Int):Nat:=(p.f0 - ar).toNat
def toH (a:List ByteArray) (p:Ed) (l:List Ed) (ar:Int):Nat:=min a.length (endE p l+ar).toNat
def linesH (a:List ByteArray) (ar:Int) (p:Ed) (l:List Ed):List ByteArray:=blkLines (blks a (fromH p ar) (p :: l)) ((a.take (toH a p l ar)).drop (endE p l).toNat)
def hunkOf (a:List ByteArray) (ar more:Int) (p:Ed) (l:List Ed):Hk :=
 ⟨(fromH p ar:Int),(toH a p l ar:Int) - fromH p ar,fromH p ar+more,(toH a p l ar:Int) - fromH p ar+diffE (p :: l),linesH a ar p l⟩
theorem tail_len (a:List ByteArray) (ar:Int) (p:Ed) (l:List Ed) (fr:Int) (har:0≤ar) (hf:0≤fr) (ho:okFrom fr a.length (p :: l)=true) :
  ((((a.take (toH a p l ar)).drop (endE p l).toNat).length:Nat):Int)=toH a p l ar - endE p l∧endE p l≤toH a p l ar∧toH a p l ar≤a.length:=by
 have h:=okFrom_last l p fr ho
 obtain ⟨c1,c2,c3,c4,c5,ho'⟩:=okFrom_cons ho
 simp only [List.length_drop,List.length_take,toH]
 omega
theorem cntL_linesH (a:List ByteArray) (ar:Int) (p:Ed) (l:List Ed) (fr:Int) (har:0≤ar) (hf:0≤fr) (ho:okFrom fr a.length (p :: l)=true) :
  cntL false 0 0 (linesH a ar p l)=((toH a p l ar:Int) - fromH p ar,(toH a p l ar:Int) - fromH p ar+diffE (p :: l),true):=by
 obtain ⟨c1,c2,c3,c4,c5,ho'⟩:=okFrom_cons ho
 have ho0:okFrom p.f0 a.length (p :: l)=true:=by
  simp only [okFrom,Bool.and_eq_true,decide_eq_true_eq]
  exact ⟨⟨Int.le_refl _,c2,c3,c4,c5⟩,ho'⟩
 have hft:(fromH p ar:Int)≤p.f0:=by unfold fromH;omega
 have h1:=blks_ok a (p :: l) p.f0 (fromH p ar) true hft (Or.inl rfl) ho0
 have h2:=blks_counts a l p p.f0 (fromH p ar) hft ho0
 have h3:=tail_len a ar p l fr har hf ho
 rw [linesH,cntL_blk _ _ true false _ _ h1 (fun _=>rfl)]
 congr 1
 ·omega
 congr 1;omega
theorem Group_l0 (a:List ByteArray) (g:List Ed) (ha:a.length≤1099511627776) (hg:g.length≤1099511627776) (hsa:∀ s ∈ a,s.size≤4611686018427387904) (hsg:∀ e ∈ g,∀ s ∈ e.f2,s.size≤4611686018427387904) (q0 q1 q2 q3:Int) (tw:Nat) (hto:tw≤a.length) (G:List ByteArray) (hG:G.length≤1099511627776) (c:Int × Int × Bool) (hc:cntL false 0 0 G=c) :
  ∀ (d i t:Nat) (fr:Int) (en:Nat) (out:List ByteArray),g.length - i=d→i≤g.length→0≤fr→(t:Int)≤fr→t≤a.length→okFrom fr a.length (g.drop i)=true→en≤tw→(match g.drop i with|[]=>(en:Int)=t|p :: l=>(en:Int)=endE p l) →
   out++blkLines (blks a t (g.drop i)) ((a.take tw).drop en)=G→insE (g.drop i)≤1099511627776 →
  Ev (fun k=>hunk_group.l0 k a (tw:Int) (t:Int) g (g.length:Int) (i:Int) q0 q1 q2 q3 out) (q0,c.1,q2,c.2.1,G):=by
 intro d
 induction d with
 | zero =>
  intro i t fr en out hd hi hf0 hf ht ho hen hm hG2 hb
  refine Ev.step (fun _=>hunk_group.l0.eq_2 ..) ?_
  rw [List.drop_of_length_le (by omega:g.length≤i)] at *
  have hm':(en:Int)=t:=hm
  have hent:en=t:=by omega
  subst hent
  simp only [if_neg (show ¬ (i:Int)<(g.length:Int) by omega),if_pos (show 0≤(en:Int) by omega),if_pos (show (en:Int)≤(tw:Int) by omega),if_pos (show (tw:Int)≤(a.length:Int) by omega),Int.toNat_natCast]
  refine Ev.bind (signed_ev 32 32 enc32 _ (fun s hm=>hsa s (List.mem_of_mem_take (List.mem_of_mem_drop hm))) (by rw [List.length_drop,List.length_take];omega)) ?_
  have e:out++sgs 32 ((a.take tw).drop en)=G:=hG2
  have hL:=congrArg List.length e
  rw [List.length_append] at hL
  simp only [if_pos (show out.length+(sgs 32 ((a.take tw).drop en)).length<8796093022208 by omega),e,Option.bind_some]
  refine Ev.bind (count_ev G hG) ?_
  rw [hc]
  exact Ev.now _
 | succ d ih =>
  intro i t fr en out hd hi hf0 hf ht ho hen hm hG2 hb
  refine Ev.step (fun _=>hunk_group.l0.eq_2 ..) ?_
  have h0:i<g.length:=by omega
  rw [List.drop_eq_getElem_cons h0] at ho hm hG2 hb
  obtain ⟨c1,c2,c3,c4,c5,ho'⟩:=okFrom_cons ho
  have w1:wrap64 (g[i].f0+g[i].f1)=g[i].f0+g[i].f1:=w_in (by omega) (by omega)
  have hmem:g[i] ∈ g:=List.getElem_mem h0
  simp only [insE] at hb
  simp only [if_pos (show (i:Int)<(g.length:Int) by omega),if_pos (show 0≤(i:Int) by omega),rdE_at h0,w_succ h0 (show g.length≤4611686018427387904 by omega),if_pos (show 0≤(t:Int) by omega),if_pos (show (t:Int)≤g[i].f0 by omega),if_pos c3,w1,
   if_pos (show 0≤g[i].f0 by omega),if_pos (show g[i].f0≤g[i].f0+g[i].f1 by omega),if_pos (show g[i].f0+g[i].f1≤(a.length:Int) by omega),Int.toNat_natCast]
  refine Ev.bind (signed_ev 32 32 enc32 _ (fun s hm=>hsa s (List.mem_of_mem_take (List.mem_of_mem_drop hm))) (by rw [List.length_drop,List.length_take];omega)) ?_
  refine Ev.bind (signed_ev 45 45 enc45 _ (fun s hm=>hsa s (List.mem_of_mem_take (List.mem_of_mem_drop hm))) (by rw [List.length_drop,List.length_take];omega)) ?_
  refine Ev.bind (signed_ev 43 43 enc43 _ (fun s hm=>hsg _ hmem s hm) (by omega)) ?_
  have hcat:([out,sgs 32 ((a.take g[i].f0.toNat).drop t),sgs 45 ((a.take (g[i].f0+g[i].f1).toNat).drop g[i].f0.toNat),sgs 43 g[i].f2]:List (List ByteArray)).flatten
    = out++(sgs 32 ((a.take g[i].f0.toNat).drop t)++(sgs 45 ((a.take (g[i].f0+g[i].f1).toNat).drop g[i].f0.toNat)++sgs 43 g[i].f2)):=by simp
  have hL:=congrArg List.length hG2
  simp only [blks,blkLines,List.length_append] at hL
  simp only [slices_Concat_string_string.f,hcat]
  rw [if_pos (by simp only [List.length_append];omega)]
  simp only [Option.bind_some]
  rw [show g[i].f0+g[i].f1=(((g[i].f0+g[i].f1).toNat:Nat):Int) by omega]
  refine ih (i+1) (g[i].f0+g[i].f1).toNat (g[i].f0+g[i].f1+1) en _ (by omega) (by omega) (by omega) (by omega) (by omega) ho' hen ?_ ?_ (by omega)
  ·cases hq:g.drop (i+1) with
   | nil=>rw [hq] at hm;simp only [endE] at hm;show (en:Int)=_;omega
   | cons p l=>rw [hq] at hm;exact hm
  rw [← hG2]
  simp only [blks,blkLines,List.append_assoc,Int.toNat_natCast]
theorem Group_ev (a:List ByteArray) (p:Ed) (l:List Ed) (ar more fr:Int) (ha:a.length≤274877906944) (hg:l.length≤274877906944) (hsa:∀ s ∈ a,s.size≤4611686018427387904) (hsg:∀ e ∈ p :: l,∀ s ∈ e.f2,s.size≤4611686018427387904)
  (har:0≤ar) (har2:ar≤1000) (hm0:-4398046511104≤more) (hm1:more≤4398046511104) (hf:0≤fr) (ho:okFrom fr a.length (p :: l)=true) (hi:insE (p :: l)≤274877906944) (hdf:diffE (p :: l)≤274877906944) :
  Ev (fun k=>hunk_group.f k a (p :: l) ar more) ((hunkOf a ar more p l).f0,(hunkOf a ar more p l).f1,(hunkOf a ar more p l).f2,(hunkOf a ar more p l).f3,(hunkOf a ar more p l).f4):=by
 have hlast:=okFrom_last l p fr ho
 obtain ⟨c1,c2,c3,c4,c5,ho'⟩:=okFrom_cons ho
 have ho0:okFrom p.f0 a.length (p :: l)=true:=by
  simp only [okFrom,Bool.and_eq_true,decide_eq_true_eq]
  exact ⟨⟨Int.le_refl _,c2,c3,c4,c5⟩,ho'⟩
 have hft:(fromH p ar:Int)≤p.f0:=by unfold fromH;omega
 have hco:=blks_counts a l p p.f0 (fromH p ar) hft ho0
 have htl:=tail_len a ar p l fr har hf ho
 have hLen:((p :: l:List Ed).length:Int)=(l.length:Int)+1:=by simp
 have w0:wrap64 (((p :: l:List Ed).length:Int) - 1)=((l.length:Nat):Int):=by rw [w_in (by omega) (by omega)];omega
 have hlt:l.length<(p :: l).length:=by simp
 have hge:=endE_get l p
 have hr0:rd_T53 (p :: l) 0=p:=rfl
 unfold hunk_group.f
 simp only [w0,if_pos (show 0≤((l.length:Nat):Int) by omega),if_pos (show ((l.length:Nat):Int)<(((p :: l).length:Nat):Int) by omega),if_pos (show 0<(((p :: l).length:Nat):Int) by omega),rdE_at hlt,hr0]
 rw [w_in (x:=(p :: l)[l.length].f0+(p :: l)[l.length].f1) (by omega) (by omega),← hge,w_in (x:=endE p l+ar) (by omega) (by omega),w_in (x:=p.f0 - ar) (by omega) (by omega)]
 have e1:mx 0 (p.f0 - ar)=(fromH p ar:Int):=by unfold mx fromH;omega
 have e2:mn (a.length:Int) (endE p l+ar)=(toH a p l ar:Int):=by unfold mn toH;omega
 rw [e1,e2,w_in (x:=(fromH p ar:Int)+more) (by omega) (by omega)]
 have hlen:(linesH a ar p l).length≤1099511627776:=by
  have h:=blkLines_len (blks a (fromH p ar) (p :: l)) ((a.take (toH a p l ar)).drop (endE p l).toNat)
  unfold linesH
  omega
 have hcn:=cntL_linesH a ar p l fr har hf ho
 have h:=Group_l0 a (p :: l) (by omega) (by simp only [List.length_cons];omega) hsa hsg (fromH p ar) 0 (fromH p ar+more) 0 (toH a p l ar) (by omega) (linesH a ar p l) hlen _ hcn _ 0 (fromH p ar) p.f0 (endE p l).toNat [] rfl (by omega) (by omega) hft (by omega) ho0 (by omega) (by show (_:Int)=endE p l;omega) rfl (by rw [List.drop_zero];omega)
 exact h
end Go.Proofs.Ytoaijganmfijmaa.Pr
-- shrunk
/-
What package hunk's Make makes of edits, as plain Lean, and what its hunks tell.
-/
namespace Go.Proofs.Ytoaijganmfijmaa.Pr
open Go.RowKit Go.Proofs.YtoaijganmfijmaaW.PrintWords Go.Proofs.YtoaijganmfijmaaW.PrintLast Go.Proofs.YtoaijganmfijmaaW.PrintMore
def grp (ar:Int) (p:Ed):List Ed→List Ed × List Ed
 | []=>([],[])
 | e :: l=>if e.f0 - p.f0 - p.f1≤2 * ar then (e :: (grp ar e l).1,(grp ar e l).2) else ([],e :: l)
theorem grp_app (ar:Int):∀ (l:List Ed) (p:Ed),(grp ar p l).1++(grp ar p l).2=l
 | [],p=>rfl
 | e :: l,p=>by
  have ih:=grp_app ar l e
  rw [grp]
  split
  ·show e :: ((grp ar e l).1++(grp ar e l).2)=_
   rw [ih]
  ·rfl
theorem grp_len (ar:Int) (l:List Ed) (p:Ed):(grp ar p l).2.length≤l.length:=by
 have h:=congrArg List.length (grp_app ar l p)
 rw [List.length_append] at h
 omega
def makeH (a:List ByteArray) (ar:Int) (more:Int):List Ed→List Hk
 | []=>[]
 | p :: l=>hunkOf a ar more p (grp ar p l).1 :: makeH a ar (more+diffE (p :: (grp ar p l).1)) (grp ar p l).2
termination_by l=>l.length
decreasing_by
 have:=grp_len ar l p
 simp only [List.length_cons];omega
theorem okFrom_split {many:Int}:∀ (l:List Ed) (p:Ed) (y:List Ed) (fr:Int),okFrom fr many (p :: (l++y))=true→okFrom fr many (p :: l)=true∧okFrom (endE p l+1) many y=true
 | [],p,y,fr,h=>by
  obtain ⟨c1,c2,c3,c4,c5,h'⟩:=okFrom_cons h
  refine ⟨?_,h'⟩
  simp only [okFrom,Bool.and_true,decide_eq_true_eq]
  exact ⟨c1,c2,c3,c4,c5⟩
 | e :: l,p,y,fr,h=>by
  obtain ⟨c1,c2,c3,c4,c5,h'⟩:=okFrom_cons h
  have ih:=okFrom_split l e y _ h'
  refine ⟨?_,ih.2⟩
  rw [okFrom,ih.1,Bool.and_true,decide_eq_true_eq]
  exact ⟨c1,c2,c3,c4,c5⟩
def delE:List Ed→Int
 | []=>0
 | e :: l=>e.f1+delE l
theorem diffE_eq:∀ l,diffE l=(insE l:Int) - delE l
 | []=>rfl
 | e :: l=>by have:=diffE_eq l;simp only [diffE,insE,delE];push_cast;omega
theorem insE_app:∀ x y,insE (x++y)=insE x+insE y
 | [],y=>by simp [insE]
 | e :: x,y=>by have:=insE_app x y;simp only [List.cons_append,insE];omega
theorem delE_app:∀ x y,delE (x++y)=delE x+delE y
 | [],y=>by simp [delE]
 | e :: x,y=>by have:=delE_app x y;simp only [List.cons_append,delE];omega
theorem delE_le {many:Int}:∀ (l:List Ed) (p:Ed) (fr:Int),okFrom fr many (p :: l)=true→0≤delE (p :: l)∧delE (p :: l)≤endE p l - p.f0
 | [],p,fr,h=>by obtain ⟨c1,c2,c3,c4,c5,h'⟩:=okFrom_cons h;simp only [delE,endE];omega
 | e :: l,p,fr,h=>by
  obtain ⟨c1,c2,c3,c4,c5,h'⟩:=okFrom_cons h
  have ih:=delE_le l e _ h'
  obtain ⟨d1,_,_,_,_,_⟩:=okFrom_cons h'
  rw [delE,endE];omega
theorem delE_nonneg {many fr:Int} (l:List Ed) (h:okFrom fr many l=true):0≤delE l:=by
 cases l with
 | nil=>simp [delE]
 | cons p l=>exact (delE_le l p fr h).1
theorem okFrom_each {many:Int}:∀ (l:List Ed) (fr:Int),okFrom fr many l=true→∀ e ∈ l,fr≤e.f0∧0≤e.f1∧e.f0+e.f1≤many
 | [],fr,h,e,he=>by cases he
 | p :: l,fr,h,e,he=>by
  obtain ⟨c1,c2,c3,c4,c5,h'⟩:=okFrom_cons h
  rcases List.mem_cons.1 he with rfl|he
  ·omega
  ·have:=okFrom_each l _ h' e he;omega
theorem Make_l1 (a:List ByteArray) (l:List Ed) (ar more:Int) (out:List Hk) (har:0≤ar) (har2:ar≤1000) (hl:l.length≤1099511627776) (hb:∀ e ∈ l,0≤e.f0∧0≤e.f1∧e.f0+e.f1≤1099511627776) (r:List Hk × Int) :
  ∀ (d n:Nat) (hd:l.length - n=d) (h1:1≤n) (h2:n≤l.length),
  (∀ m,m=n+(grp ar (l[n - 1]'(by omega)) (l.drop n)).1.length→m≤l.length→Ev (fun k=>(hunk_group.f k a (l.take m) ar more).bind fun bt=>(if out.length<2513169434916 then (hunk_Make.l0 k a (l.drop m) ar (out++[(⟨bt.1,bt.2.1,bt.2.2.1,bt.2.2.2.1,bt.2.2.2.2⟩:Hk)]) (wrap64 (more+(wrap64 (bt.2.2.2.1 - bt.2.1))))) else none)) r) →
  Ev (fun k=>hunk_Make.l1 k a l ar out more (n:Int)) r:=by
 intro d
 induction d with
 | zero =>
  intro n hd h1 h2 rest
  refine Ev.step (fun _=>hunk_Make.l1.eq_2 ..) ?_
  simp only [if_neg (show ¬ (n:Int)<(l.length:Int) by omega),if_pos (show 0≤(n:Int) by omega),if_pos (show (n:Int)≤(l.length:Int) by omega),Int.toNat_natCast]
  refine rest n ?_ h2
  rw [List.drop_of_length_le (by omega)]
  rfl
 | succ d ih =>
  intro n hd h1 h2 rest
  refine Ev.step (fun _=>hunk_Make.l1.eq_2 ..) ?_
  have h0:n<l.length:=by omega
  have hq:n - 1<l.length:=by omega
  have b1:=hb _ (List.getElem_mem h0)
  have b2:=hb _ (List.getElem_mem hq)
  have wn:wrap64 ((n:Int) - 1)=((n - 1:Nat):Int):=by rw [w_in (by omega) (by omega)];omega
  have w2:wrap64 (2 * ar)=2 * ar:=w_in (by omega) (by omega)
  simp only [if_pos (show (n:Int)<(l.length:Int) by omega),if_pos (show 0≤(n:Int) by omega),wn,if_pos (show 0≤((n - 1:Nat):Int) by omega),if_pos (show ((n - 1:Nat):Int)<(l.length:Int) by omega),rdE_at h0,rdE_at hq,w2,w_succ h0 (show l.length≤4611686018427387904 by omega),if_pos (show (n:Int)≤(l.length:Int) by omega),Int.toNat_natCast]
  rw [w_in (x:=l[n].f0 - l[n - 1].f0) (by omega) (by omega),w_in (x:=l[n].f0 - l[n - 1].f0 - l[n - 1].f1) (by omega) (by omega)]
  by_cases c:l[n].f0 - l[n - 1].f0 - l[n - 1].f1≤2 * ar
  ·simp only [if_pos c]
   refine ih (n+1) (by omega) (by omega) (by omega) (fun m hm hm2=>rest m ?_ hm2)
   rw [List.drop_eq_getElem_cons h0,grp,if_pos c]
   simp only [Nat.add_sub_cancel] at hm
   simp only [List.length_cons]
   omega
  simp only [if_neg c]
  refine rest n ?_ h2
  rw [List.drop_eq_getElem_cons h0,grp,if_neg c]
  rfl
theorem Make_l0 (a:List ByteArray) (ar:Int) (ha:a.length≤274877906944) (hsa:∀ s ∈ a,s.size≤4611686018427387904) (har:0≤ar) (har2:ar≤1000) :
  ∀ (N:Nat) (l:List Ed) (more fr:Int) (out:List Hk),l.length≤N→l.length≤274877906944→(∀ e ∈ l,∀ s ∈ e.f2,s.size≤4611686018427387904)→0≤fr→okFrom fr a.length l=true→insE l≤274877906944 →
   more+insE l≤1099511627776 → -1099511627776≤more - delE l→out.length+l.length≤1099511627776 →
  Ev (fun k=>hunk_Make.l0 k a l ar out more) (out++makeH a ar more l,0):=by
 intro N
 induction N with
 | zero =>
  intro l more fr out hN hl hs hf ho hi hm1 hm2 hout
  have e:l=[]:=List.eq_nil_of_length_eq_zero (by omega)
  subst e
  refine Ev.step (fun _=>hunk_Make.l0.eq_2 ..) ?_
  simp only [List.length_nil,if_neg (show ¬ ((0:Nat):Int) > 0 by omega),makeH,List.append_nil]
  exact Ev.now _
 | succ N ih =>
  intro l more fr out hN hl hs hf ho hi hm1 hm2 hout
  cases l with
  | nil =>
   refine Ev.step (fun _=>hunk_Make.l0.eq_2 ..) ?_
   simp only [List.length_nil,if_neg (show ¬ ((0:Nat):Int) > 0 by omega),makeH,List.append_nil]
   exact Ev.now _
  | cons p l =>
   have happ:=grp_app ar l p
   have hsp:=okFrom_split (many:=a.length) (grp ar p l).1 p (grp ar p l).2 fr (by rw [happ];exact ho)
   have hlen:=congrArg List.length happ
   have hin:insE (p :: l)=insE (p :: (grp ar p l).1)+insE (grp ar p l).2:=by rw [← insE_app,List.cons_append,happ]
   have hde:delE (p :: l)=delE (p :: (grp ar p l).1)+delE (grp ar p l).2:=by rw [← delE_app,List.cons_append,happ]
   have hd1:=delE_le _ _ _ hsp.1
   have hd2:=delE_nonneg _ hsp.2
   have hdf:=diffE_eq (p :: (grp ar p l).1)
   have hla:=okFrom_last _ _ _ hsp.1
   rw [List.length_append] at hlen
   simp only [List.length_cons] at hN hl hout
   refine Ev.step (fun _=>hunk_Make.l0.eq_2 ..) ?_
   simp only [if_pos (show (((p :: l:List Ed).length:Nat):Int) > 0 by simp only [List.length_cons];omega)]
   refine Make_l1 a (p :: l) ar more out har har2 (by simp only [List.length_cons];omega) (fun e he=>by have:=okFrom_each _ _ ho e he;omega) _ _ 1 rfl (Nat.le_refl _) (by simp only [List.length_cons];omega) ?_
   intro m hm hm2
   have hm':m=1+(grp ar p l).1.length:=hm
   have hta:(p :: l).take m=p :: (grp ar p l).1:=by
    rw [hm',Nat.add_comm,List.take_succ_cons]
    congr 1
    have h:=List.take_left (l₁:=(grp ar p l).1) (l₂:=(grp ar p l).2)
    rwa [happ] at h
   have htd:(p :: l).drop m=(grp ar p l).2:=by
    rw [hm',Nat.add_comm,List.drop_succ_cons]
    have h:=List.drop_left (l₁:=(grp ar p l).1) (l₂:=(grp ar p l).2)
    rwa [happ] at h
   simp only [hta,htd]
   have hmem:∀ e ∈ p :: (grp ar p l).1,e ∈ p :: l:=fun e he=>by
    rw [← happ]
    rcases List.mem_cons.1 he with rfl|he
    ·simp
    simp [he]
   have hmem2:∀ e ∈ (grp ar p l).2,e ∈ p :: l:=fun e he=>by
    rw [← happ];simp [he]
   refine Ev.bind (Group_ev a p (grp ar p l).1 ar more fr ha (by omega) hsa (fun e he=>hs e (hmem e he)) har har2 (by omega) (by omega) hf hsp.1 (by omega) (by omega)) ?_
   simp only [if_pos (show out.length<2513169434916 by omega)]
   have hbn:(hunkOf a ar more p (grp ar p l).1).f3 - (hunkOf a ar more p (grp ar p l).1).f1=diffE (p :: (grp ar p l).1):=by simp only [hunkOf];omega
   rw [hbn,w_in (x:=diffE (p :: (grp ar p l).1)) (by omega) (by omega),w_in (x:=more+diffE (p :: (grp ar p l).1)) (by omega) (by omega)]
   have h:=ih (grp ar p l).2 (more+diffE (p :: (grp ar p l).1)) (endE p (grp ar p l).1+1) (out++[hunkOf a ar more p (grp ar p l).1]) (by omega) (by omega) (fun e he=>hs e (hmem2 e he)) (by omega) hsp.2 (by omega) (by omega) (by omega) (by rw [List.length_append,List.length_singleton];omega)
   rw [makeH]
   rw [List.append_assoc] at h
   exact h
theorem Make_ev (a:List ByteArray) (l:List Ed) (ar:Int) (ha:a.length≤274877906944) (hl:l.length≤274877906944) (hsa:∀ s ∈ a,s.size≤4611686018427387904) (hs:∀ e ∈ l,∀ s ∈ e.f2,s.size≤4611686018427387904)
  (har:0≤ar) (har2:ar≤1000) (ho:okFrom 0 a.length l=true) (hi:insE l≤274877906944):Ev (fun k=>hunk_Make.f k a l ar) (makeH a ar 0 l,0):=by
 unfold hunk_Make.f
 have hr:=Right_ev (a.length:Int) l (by omega) (by omega) (by omega)
 rw [ho] at hr
 refine Ev.bind hr ?_
 simp only [if_true,if_neg (show ¬ ar<0 by omega),decide_eq_false (show ¬ ar > 1000 by omega)]
 refine Ev.step (fun _=>hunk_Make.j0.eq_2 ..) ?_
 simp only [Bool.false_eq_true,if_false]
 have hde:delE l≤a.length:=by
  cases l with
  | nil=>simp [delE]
  | cons p l=>have h1:=delE_le l p 0 ho;have h2:=okFrom_last l p 0 ho;obtain ⟨c1,_,_,_,_,_⟩:=okFrom_cons ho;omega
 have h:=Make_l0 a ar ha hsa har har2 l.length l 0 0 [] (Nat.le_refl _) hl hs (by omega) ho hi (by omega) (by omega) (by simp;omega)
 exact h
end Go.Proofs.Ytoaijganmfijmaa.Pr
-- shrunk
/-
Lines of a hunk that are right, and how many they are, in plain Lean.
-/
namespace Go.Proofs.Ytoaijganmfijmaa.Pr
open Go.RowKit Go.Proofs.YtoaijganmfijmaaW.PrintWords Go.Proofs.YtoaijganmfijmaaW.PrintLast Go.Proofs.YtoaijganmfijmaaW.PrintMore
def manyL (z:Int):List ByteArray→Nat
 | []=>0
 | s :: l=>(if 0<s.size∧(bt s 0=32∨bt s 0=z) then 1 else 0)+manyL z l
theorem manyL_le (z:Int):∀ l,manyL z l≤l.length
 | []=>Nat.le_refl _
 | s :: l=>by have:=manyL_le z l;simp only [manyL,List.length_cons];split<;>omega
def okL (came:Bool):List ByteArray→Bool
 | []=>true
 | s :: l=>decide (0<s.size∧(bt s 0=32∨bt s 0=43∨bt s 0=45)∧¬ (bt s 0=45∧came=true)) && okL (decide (bt s 0=43)) l
theorem cntL_ok:∀ (l:List ByteArray) (came:Bool) (an bn:Int),(cntL came an bn l).2.2=okL came l∧(okL came l=true→cntL came an bn l=(an+manyL 45 l,bn+manyL 43 l,true))
 | [],came,an,bn=>⟨rfl,fun _=>by simp [cntL,manyL]⟩
 | s :: l,came,an,bn=>by
  rw [cntL,okL]
  by_cases h0:s.toList=([]:List UInt8)
  ·have hs:¬ 0<s.size:=by
    rw [nil_toList,toList_iff] at h0
    subst h0
    simp
   rw [if_pos h0,decide_eq_false (fun h=>hs h.1),Bool.false_and]
   exact ⟨rfl,fun h=>absurd h (by simp)⟩
  have hp:=ne_size h0
  rw [if_neg h0]
  by_cases h1:bt s 0=45∧came=true
  ·rw [if_pos h1,decide_eq_false (fun h=>h.2.2 h1),Bool.false_and]
   exact ⟨rfl,fun h=>absurd h (by simp)⟩
  rw [if_neg h1]
  by_cases b32:bt s 0=32
  ·have ih:=cntL_ok l false (an+1) (bn+1)
   rw [if_pos b32,decide_eq_true ⟨hp,Or.inl b32,h1⟩,Bool.true_and,decide_eq_false (by omega)]
   refine ⟨ih.1,fun h=>?_⟩
   rw [ih.2 h,manyL,manyL,if_pos ⟨hp,Or.inl b32⟩,if_pos ⟨hp,Or.inl b32⟩]
   congr 1
   ·push_cast;omega
   ·congr 1;push_cast;omega
  rw [if_neg b32]
  by_cases b43:bt s 0=43
  ·have ih:=cntL_ok l true an (bn+1)
   rw [if_pos b43,decide_eq_true ⟨hp,Or.inr (Or.inl b43),h1⟩,Bool.true_and,decide_eq_true b43]
   refine ⟨ih.1,fun h=>?_⟩
   rw [ih.2 h,manyL,manyL,if_neg (by rintro ⟨_,h|h⟩<;>omega),if_pos ⟨hp,Or.inr b43⟩,Nat.zero_add]
   congr 1
   congr 1;push_cast;omega
  rw [if_neg b43]
  by_cases b45:bt s 0=45
  ·have ih:=cntL_ok l false (an+1) bn
   rw [if_pos b45,decide_eq_true ⟨hp,Or.inr (Or.inr b45),h1⟩,Bool.true_and,decide_eq_false (by omega)]
   refine ⟨ih.1,fun h=>?_⟩
   rw [ih.2 h,manyL,manyL,if_pos ⟨hp,Or.inr b45⟩,if_neg (by rintro ⟨_,h|h⟩<;>omega),Nat.zero_add]
   congr 1
   push_cast;omega
  ·rw [if_neg b45,decide_eq_false (by rintro ⟨_,h|h|h,_⟩<;>omega),Bool.false_and]
   exact ⟨rfl,fun h=>absurd h (by simp)⟩
theorem okL_true {came:Bool} {s:ByteArray} {l:List ByteArray} (h:0<s.size∧(bt s 0=32∨bt s 0=43∨bt s 0=45)∧¬ (bt s 0=45∧came=true)):okL came (s :: l)=okL (decide (bt s 0=43)) l:=by
 rw [okL,decide_eq_true h,Bool.true_and]
theorem okL_false {came:Bool} {s:ByteArray} {l:List ByteArray} (h:¬ (0<s.size∧(bt s 0=32∨bt s 0=43∨bt s 0=45)∧¬ (bt s 0=45∧came=true))):okL came (s :: l)=false:=by
 rw [okL,decide_eq_false h,Bool.false_and]
theorem okD {came:Bool} {s:ByteArray} {l:List ByteArray} {Q:Prop} [Decidable Q] (h:¬ (0<s.size∧(bt s 0=32∨bt s 0=43∨bt s 0=45)∧¬ (bt s 0=45∧came=true))):decide (okL came (s :: l)=true∧Q)=false :=
 decide_eq_false (fun hh=>by rw [okL_false h] at hh;exact absurd hh.1 (by simp))
def rightL (A An B Bn:Int) (l:List ByteArray):Bool:=decide (okL false l=true∧0≤A∧0≤B∧An=manyL 45 l∧Bn=manyL 43 l)
theorem right_same (A An B Bn:Int) (l:List ByteArray):decide ((cntL false 0 0 l).2.2=true∧0≤A∧0≤B∧(cntL false 0 0 l).1=An∧(cntL false 0 0 l).2.1=Bn)=rightL A An B Bn l:=by
 have h:=cntL_ok l false 0 0
 unfold rightL
 rw [decide_eq_decide,h.1]
 constructor
 ·rintro ⟨h1,h2,h3,h4,h5⟩
  rw [h.2 h1] at h4 h5
  exact ⟨h1,h2,h3,by have h4':(0:Int)+(manyL 45 l:Int)=An:=h4;omega,by have h5':(0:Int)+(manyL 43 l:Int)=Bn:=h5;omega⟩
 rintro ⟨h1,h2,h3,h4,h5⟩
 rw [h.2 h1]
 exact ⟨h1,h2,h3,by show (0:Int)+(manyL 45 l:Int)=An;omega,by show (0:Int)+(manyL 43 l:Int)=Bn;omega⟩
end Go.Proofs.Ytoaijganmfijmaa.Pr
-- shrunk
/-
What hunks make of lines, in plain Lean; what hunks that are right have.
-/
namespace Go.Proofs.Ytoaijganmfijmaa.Pr
open Go.RowKit Go.Proofs.YtoaijganmfijmaaW.PrintWords Go.Proofs.YtoaijganmfijmaaW.PrintLast Go.Proofs.YtoaijganmfijmaaW.PrintMore
def lineP (a:List ByteArray):Nat→List ByteArray→List ByteArray→Option (List ByteArray × Nat)
 | at_,out,[]=>some (out,at_)
 | at_,out,s :: ls =>
  if bt s 0=43 then lineP a at_ (out++[tl s]) ls
  else if a[at_]?=some (tl s) then lineP a (at_+1) (if bt s 0=45 then out else out++[tl s]) ls
  else none
def oneP (a:List ByteArray) (done:Nat) (A:Int) (L:List ByteArray) (out:List ByteArray):Option (List ByteArray × Nat) :=
 if A≤a.length then lineP a A.toNat (out++(a.take A.toNat).drop done) L else none
def allP (a:List ByteArray):Nat→List ByteArray→List Hk→Option (List ByteArray × Nat)
 | d,o,[]=>some (o,d)
 | d,o,h :: hs=>match oneP a d h.f0 h.f4 o with
  | none=>none
  | some (o',d')=>allP a d' o' hs
def rightP:Int→Int→List Hk→Bool
 | _,_,[]=>true
 | en,more,h :: hs=>rightL h.f0 h.f1 h.f2 h.f3 h.f4 && decide (en≤h.f0) && decide (h.f2=h.f0+more) && rightP (h.f0+h.f1) (more+h.f3 - h.f1) hs
def applyP (a:List ByteArray) (l:List Hk):List ByteArray × Int :=
 if rightP 0 0 l=true then match allP a 0 [] l with
  | none=>([],6)
  | some (o,d)=>(o++a.drop d,0)
 else ([],3)
def SmallA (a:List ByteArray) (l:List Hk):Prop:=a.length≤65536∧l.length≤1024∧∀ h ∈ l,h.f4.length≤65536 ∧ -1099511627776≤h.f0∧h.f0≤1099511627776 ∧ -1099511627776≤h.f2∧h.f2≤1099511627776
instance (a:List ByteArray) (l:List Hk):Decidable (SmallA a l):=by unfold SmallA;exact inferInstance
theorem okL_size:∀ (l:List ByteArray) (came:Bool),okL came l=true→∀ s ∈ l,0<s.size
 | [],_,_,s,h=>absurd h (by simp)
 | x :: l,came,h,s,hs=>by
  rw [okL,Bool.and_eq_true,decide_eq_true_eq] at h
  rcases List.mem_cons.1 hs with rfl|hs
  ·exact h.1.1
  ·exact okL_size l _ h.2 s hs
theorem lineP_at (a:List ByteArray):∀ (l:List ByteArray) (came:Bool) (t:Nat) (out o:List ByteArray) (p:Nat),okL came l=true→lineP a t out l=some (o,p)→p=t+manyL 45 l
 | [],came,t,out,o,p,_,h=>by
  rw [lineP] at h
  simp only [Option.some.injEq,Prod.mk.injEq] at h
  rw [manyL];omega
 | s :: l,came,t,out,o,p,hk,h=>by
  rw [okL,Bool.and_eq_true,decide_eq_true_eq] at hk
  rw [lineP] at h
  by_cases c:bt s 0=43
  ·rw [if_pos c] at h
   have:=lineP_at a l _ t _ o p hk.2 h
   rw [manyL,if_neg (by rintro ⟨_,h|h⟩<;>omega)];omega
  ·rw [if_neg c] at h
   by_cases c2:a[t]?=some (tl s)
   ·rw [if_pos c2] at h
    have:=lineP_at a l _ (t+1) _ o p hk.2 h
    rw [manyL,if_pos ⟨hk.1.1,by omega⟩];omega
   ·rw [if_neg c2] at h;cases h
theorem lineP_le (a:List ByteArray):∀ (l:List ByteArray) (t:Nat) (out o:List ByteArray) (p:Nat),t≤a.length→lineP a t out l=some (o,p)→p≤a.length∧o.length≤out.length+l.length
 | [],t,out,o,p,ht,h=>by
  rw [lineP] at h
  simp only [Option.some.injEq,Prod.mk.injEq] at h
  obtain ⟨rfl,rfl⟩:=h
  exact ⟨ht,by omega⟩
 | s :: l,t,out,o,p,ht,h=>by
  rw [lineP] at h
  by_cases c:bt s 0=43
  ·rw [if_pos c] at h
   have:=lineP_le a l t _ o p ht h
   rw [List.length_append,List.length_singleton] at this
   rw [List.length_cons];omega
  ·rw [if_neg c] at h
   by_cases c2:a[t]?=some (tl s)
   ·rw [if_pos c2] at h
    have hlt:t<a.length:=by
     rcases Nat.lt_or_ge t a.length with h|h
     ·exact h
     ·rw [List.getElem?_eq_none h] at c2;cases c2
    have:=lineP_le a l (t+1) _ o p (by omega) h
    rw [List.length_cons]
    split at this
    ·omega
    ·rw [List.length_append,List.length_singleton] at this;omega
   ·rw [if_neg c2] at h;cases h
theorem oneP_some {a:List ByteArray} {d:Nat} {A An B Bn:Int} {L out o:List ByteArray} {p:Nat} (hr:rightL A An B Bn L=true) (h:oneP a d A L out=some (o,p)):(p:Int)=A+An∧p≤a.length∧o.length≤out.length+a.length+L.length:=by
 unfold rightL at hr
 rw [decide_eq_true_eq] at hr
 unfold oneP at h
 by_cases c:A≤a.length
 rotate_left
 ·rw [if_neg c] at h;cases h
 rw [if_pos c] at h
 have h1:=lineP_at a L false _ _ o p hr.1 h
 have h2:=lineP_le a L _ _ o p (by omega) h
 rw [List.length_append,List.length_drop,List.length_take] at h2
 omega
theorem rightL_size {A An B Bn:Int} {L:List ByteArray} (hr:rightL A An B Bn L=true):(∀ s ∈ L,0<s.size)∧0≤A∧0≤B∧An=manyL 45 L∧Bn=manyL 43 L:=by
 unfold rightL at hr
 rw [decide_eq_true_eq] at hr
 exact ⟨okL_size L _ hr.1,hr.2⟩
end Go.Proofs.Ytoaijganmfijmaa.Pr
-- shrunk
-- written by a program of this session's (a turned copy of the kit's printer); Lean checks it
namespace Go.Proofs.Ytoaijganmfijmaa.Pr
open Go.RowKit Go.Proofs.YtoaijganmfijmaaW.PrintWords Go.Proofs.YtoaijganmfijmaaW.PrintLast Go.Proofs.YtoaijganmfijmaaW.PrintMore
attribute [local go_sem] max2_int min2_int max_two min_two max_three min_three max_four min_four   -- for this text's walks alone

def r05_One.f (k:Nat) (a0_0:Int) (a0_1:Int) (a0_2:Int) (a0_3:Int) (l0_4:List ByteArray) (a1_0:Int) (a1_1:Int) (a1_2:Int) (a1_3:Int) (l1_4:List ByteArray):Option (Bool):=if a0_0=a1_0 then (if a0_1=a1_1 then (if a0_2=a1_2 then (if a0_3=a1_3 then ((r01_Texts.f k l0_4 l1_4).bind fun t114=>(some t114)) else (some false)) else (some false)) else (some false)) else (some false)
theorem r05_One.mono:∀ a0 a1 a2 a3 a4 a5 a6 a7 a8 a9 k,LeO (r05_One.f k a0 a1 a2 a3 a4 a5 a6 a7 a8 a9) (r05_One.f (k+1) a0 a1 a2 a3 a4 a5 a6 a7 a8 a9):=by
 intro a0 a1 a2 a3 a4 a5 a6 a7 a8 a9 k
 unfold r05_One.f
 repeat' first
   | (with_reducible exact r01_Texts.mono _ _ _)
   | (with_reducible exact LeO.refl _)
   | (with_reducible exact LeO.none _)
   | (with_reducible refine LeO.ite ?_ ?_)
   | (with_reducible refine LeO.bind ?_ (fun _=>?_))
   | exact r01_Texts.mono _ _ _
   | exact LeO.none _
   | refine LeO.ite ?_ ?_
   | refine LeO.bind ?_ (fun _=>?_)
set_option maxHeartbeats 8000000 in
set_option maxRecDepth 100000 in
theorem r05_One.calls (k:Nat) (a0_0:Int) (a0_1:Int) (a0_2:Int) (a0_3:Int) (A0_4:Option Addr) (c0_4:Nat) (l0_4:List ByteArray) (a1_0:Int) (a1_1:Int) (a1_2:Int) (a1_3:Int) (A1_4:Option Addr) (c1_4:Nat) (l1_4:List ByteArray) (r:Bool) (w:World) (hr0_4:Kd.C Kd.string w A0_4 l0_4.length l0_4) (hc0_4:l0_4.length≤c0_4) (hr1_4:Kd.C Kd.string w A1_4 l1_4.length l1_4) (hc1_4:l1_4.length≤c1_4) (h:r05_One.f k a0_0 a0_1 a0_2 a0_3 l0_4 a1_0 a1_1 a1_2 a1_3 l1_4=some r) :
  Calls Try.prog 26 #[.agg #[.int .i64 a0_0,.int .i64 a0_1,.int .i64 a0_2,.int .i64 a0_3,.slice A0_4 l0_4.length c0_4],.agg #[.int .i64 a1_0,.int .i64 a1_1,.int .i64 a1_2,.int .i64 a1_3,.slice A1_4 l1_4.length c1_4]] w fun e w'=>e=.returned (.bool r)∧Below w.heap.size w w':=by
 have hu41:=Try.underlying41
 have HR0_4:=Aside0.mk hr0_4
 have HC0_4:=Aside0.mk hc0_4
 clear hr0_4 hc0_4
 have HR1_4:=Aside0.mk hr1_4
 have HC1_4:=Aside0.mk hc1_4
 clear hr1_4 hc1_4
 have HB:=Aside0.mk (Below.refl w.heap.size w)
 have H:(if a0_0=a1_0 then (if a0_1=a1_1 then (if a0_2=a1_2 then (if a0_3=a1_3 then ((r01_Texts.f k l0_4 l1_4).bind fun t114=>(some t114)) else (some false)) else (some false)) else (some false)) else (some false))=some r:=h
 clear h
 by_cases c3:a0_0=a1_0
 rotate_left
 ·rw [if_neg c3] at H
  have c3b0:(a0_0 == a1_0)=false:=beq_eq_false_iff_ne.mpr c3
  have c3b1:(a0_0 != a1_0)=true:=bne_iff_ne.mpr c3
  obtain rfl:=Option.some.inj H
  go_enter Try.func26,Try.ntmps26
  go_wp2_with (first|((with_reducible refine gate_dst (N:=2) rfl ?_);refine box_event ?hg (N:=2) ?hd (cs:=#[.int .i64 a0_0,.int .i64 a0_1,.int .i64 a0_2,.int .i64 a0_3,.slice A0_4 l0_4.length c0_4]) (t:=41) ?hr ?_;(case hd=>rfl);(case hg=>rfl);(case hr=>first|(go_simp;done)|(go_simp;rfl));intro gb112 hg w28 hbox hb;have n0_:=Aside0.mk (below_step bel hb);have n1_:=Aside0.mk (hbox);have n2_:=Aside0.mk ((szl:w.heap.size≤gb112));have n3_:=Aside0.mk ((szl:w.heap.size≤gb112));clear HB;have HB:=n0_;have BK112:=n1_;have GW112:=n2_;have GE112:=n3_;clear n0_ n1_ n2_ n3_;clear hb hbox hg)|((with_reducible refine gate_dst (N:=3) rfl ?_);refine box_event ?hg (N:=3) ?hd (cs:=#[.int .i64 a1_0,.int .i64 a1_1,.int .i64 a1_2,.int .i64 a1_3,.slice A1_4 l1_4.length c1_4]) (t:=41) ?hr ?_;(case hd=>rfl);(case hg=>rfl);(case hr=>first|(go_simp;done)|(go_simp;rfl));intro gb113 hg w29 hbox hb;have n0_:=Aside0.mk (blk_below (g:=gb112) (o:=.cells #[.int .i64 a0_0,.int .i64 a0_1,.int .i64 a0_2,.int .i64 a0_3,.slice A0_4 l0_4.length c0_4] 41 (0,0)) (by (with_reducible repeat (first|refine blk_drewN ?_ _|refine blk_drew ?_|refine blk_alloc ?_ _));exact BK112.out) hb);have n1_:=Aside0.mk (below_step bel hb);have n2_:=Aside0.mk (hbox);have n3_:=Aside0.mk ((szl:w.heap.size≤gb113));have n4_:=Aside0.mk ((szl:w.heap.size≤gb113));have n5_:=Aside0.mk ((by rw [hg];exact Nat.ne_of_lt (blk_lt (g:=gb112) (o:=.cells #[.int .i64 a0_0,.int .i64 a0_1,.int .i64 a0_2,.int .i64 a0_3,.slice A0_4 l0_4.length c0_4] 41 (0,0)) (by (with_reducible repeat (first|refine blk_drewN ?_ _|refine blk_drew ?_|refine blk_alloc ?_ _));exact BK112.out)):gb112≠gb113));have n6_:=Aside0.mk ((by rw [hg];exact Nat.ne_of_gt (blk_lt (g:=gb112) (o:=.cells #[.int .i64 a0_0,.int .i64 a0_1,.int .i64 a0_2,.int .i64 a0_3,.slice A0_4 l0_4.length c0_4] 41 (0,0)) (by (with_reducible repeat (first|refine blk_drewN ?_ _|refine blk_drew ?_|refine blk_alloc ?_ _));exact BK112.out)):gb113≠gb112));clear BK112;clear HB;have BK112:=n0_;have HB:=n1_;have BK113:=n2_;have GW113:=n3_;have GE113:=n4_;have NB112_113:=n5_;have NB113_112:=n6_;clear n0_ n1_ n2_ n3_ n4_ n5_ n6_;clear hb hbox hg;have hnb30:=NB112_113.out;have hnc30:=NB113_112.out;have hcz31_0:w29.cell? ⟨gb112,0,none⟩=some (.int .i64 a0_0):=(blk_cell BK112.out 0).trans rfl;have hcz31_1:w29.cell? ⟨gb112,1,none⟩=some (.int .i64 a0_1):=(blk_cell BK112.out 1).trans rfl;have hcz31_2:w29.cell? ⟨gb112,2,none⟩=some (.int .i64 a0_2):=(blk_cell BK112.out 2).trans rfl;have hcz31_3:w29.cell? ⟨gb112,3,none⟩=some (.int .i64 a0_3):=(blk_cell BK112.out 3).trans rfl;have hcz31_4:w29.cell? ⟨gb112,4,none⟩=some (.slice A0_4 l0_4.length c0_4):=(blk_cell BK112.out 4).trans rfl;have hfz31_0:=blk_frozen BK112.out 0;have hfz31_1:=blk_frozen BK112.out 1;have hfz31_2:=blk_frozen BK112.out 2;have hfz31_3:=blk_frozen BK112.out 3;have hfz31_4:=blk_frozen BK112.out 4;have hcz32_0:w29.cell? ⟨gb113,0,none⟩=some (.int .i64 a1_0):=(blk_cell BK113.out 0).trans rfl;have hcz32_1:w29.cell? ⟨gb113,1,none⟩=some (.int .i64 a1_1):=(blk_cell BK113.out 1).trans rfl;have hcz32_2:w29.cell? ⟨gb113,2,none⟩=some (.int .i64 a1_2):=(blk_cell BK113.out 2).trans rfl;have hcz32_3:w29.cell? ⟨gb113,3,none⟩=some (.int .i64 a1_3):=(blk_cell BK113.out 3).trans rfl;have hcz32_4:w29.cell? ⟨gb113,4,none⟩=some (.slice A1_4 l1_4.length c1_4):=(blk_cell BK113.out 4).trans rfl;have hfz32_0:=blk_frozen BK113.out 0;have hfz32_1:=blk_frozen BK113.out 1;have hfz32_2:=blk_frozen BK113.out 2;have hfz32_3:=blk_frozen BK113.out 3;have hfz32_4:=blk_frozen BK113.out 4))
  go_ret
  exact ⟨by first|rfl|(simp [errW_none,errW_some]<;>rfl)|(simp [*,errW_none,errW_some]<;>rfl),bel⟩

 rw [if_pos c3] at H
 have c3b0:(a0_0 == a1_0)=true:=beq_iff_eq.mpr c3
 have c3b1:(a0_0 != a1_0)=false:=bne_eq_false_iff_eq.mpr c3
 clear c3
 by_cases c4:a0_1=a1_1
 rotate_left
 ·rw [if_neg c4] at H
  have c4b0:(a0_1 == a1_1)=false:=beq_eq_false_iff_ne.mpr c4
  have c4b1:(a0_1 != a1_1)=true:=bne_iff_ne.mpr c4
  obtain rfl:=Option.some.inj H
  go_enter Try.func26,Try.ntmps26
  go_wp2_with (first|((with_reducible refine gate_dst (N:=2) rfl ?_);refine box_event ?hg (N:=2) ?hd (cs:=#[.int .i64 a0_0,.int .i64 a0_1,.int .i64 a0_2,.int .i64 a0_3,.slice A0_4 l0_4.length c0_4]) (t:=41) ?hr ?_;(case hd=>rfl);(case hg=>rfl);(case hr=>first|(go_simp;done)|(go_simp;rfl));intro gb112 hg w23 hbox hb;have n0_:=Aside0.mk (below_step bel hb);have n1_:=Aside0.mk (hbox);have n2_:=Aside0.mk ((szl:w.heap.size≤gb112));have n3_:=Aside0.mk ((szl:w.heap.size≤gb112));clear HB;have HB:=n0_;have BK112:=n1_;have GW112:=n2_;have GE112:=n3_;clear n0_ n1_ n2_ n3_;clear hb hbox hg)|((with_reducible refine gate_dst (N:=3) rfl ?_);refine box_event ?hg (N:=3) ?hd (cs:=#[.int .i64 a1_0,.int .i64 a1_1,.int .i64 a1_2,.int .i64 a1_3,.slice A1_4 l1_4.length c1_4]) (t:=41) ?hr ?_;(case hd=>rfl);(case hg=>rfl);(case hr=>first|(go_simp;done)|(go_simp;rfl));intro gb113 hg w24 hbox hb;have n0_:=Aside0.mk (blk_below (g:=gb112) (o:=.cells #[.int .i64 a0_0,.int .i64 a0_1,.int .i64 a0_2,.int .i64 a0_3,.slice A0_4 l0_4.length c0_4] 41 (0,0)) (by (with_reducible repeat (first|refine blk_drewN ?_ _|refine blk_drew ?_|refine blk_alloc ?_ _));exact BK112.out) hb);have n1_:=Aside0.mk (below_step bel hb);have n2_:=Aside0.mk (hbox);have n3_:=Aside0.mk ((szl:w.heap.size≤gb113));have n4_:=Aside0.mk ((szl:w.heap.size≤gb113));have n5_:=Aside0.mk ((by rw [hg];exact Nat.ne_of_lt (blk_lt (g:=gb112) (o:=.cells #[.int .i64 a0_0,.int .i64 a0_1,.int .i64 a0_2,.int .i64 a0_3,.slice A0_4 l0_4.length c0_4] 41 (0,0)) (by (with_reducible repeat (first|refine blk_drewN ?_ _|refine blk_drew ?_|refine blk_alloc ?_ _));exact BK112.out)):gb112≠gb113));have n6_:=Aside0.mk ((by rw [hg];exact Nat.ne_of_gt (blk_lt (g:=gb112) (o:=.cells #[.int .i64 a0_0,.int .i64 a0_1,.int .i64 a0_2,.int .i64 a0_3,.slice A0_4 l0_4.length c0_4] 41 (0,0)) (by (with_reducible repeat (first|refine blk_drewN ?_ _|refine blk_drew ?_|refine blk_alloc ?_ _));exact BK112.out)):gb113≠gb112));clear BK112;clear HB;have BK112:=n0_;have HB:=n1_;have BK113:=n2_;have GW113:=n3_;have GE113:=n4_;have NB112_113:=n5_;have NB113_112:=n6_;clear n0_ n1_ n2_ n3_ n4_ n5_ n6_;clear hb hbox hg;have hnb25:=NB112_113.out;have hnc25:=NB113_112.out;have hcz26_0:w24.cell? ⟨gb112,0,none⟩=some (.int .i64 a0_0):=(blk_cell BK112.out 0).trans rfl;have hcz26_1:w24.cell? ⟨gb112,1,none⟩=some (.int .i64 a0_1):=(blk_cell BK112.out 1).trans rfl;have hcz26_2:w24.cell? ⟨gb112,2,none⟩=some (.int .i64 a0_2):=(blk_cell BK112.out 2).trans rfl;have hcz26_3:w24.cell? ⟨gb112,3,none⟩=some (.int .i64 a0_3):=(blk_cell BK112.out 3).trans rfl;have hcz26_4:w24.cell? ⟨gb112,4,none⟩=some (.slice A0_4 l0_4.length c0_4):=(blk_cell BK112.out 4).trans rfl;have hfz26_0:=blk_frozen BK112.out 0;have hfz26_1:=blk_frozen BK112.out 1;have hfz26_2:=blk_frozen BK112.out 2;have hfz26_3:=blk_frozen BK112.out 3;have hfz26_4:=blk_frozen BK112.out 4;have hcz27_0:w24.cell? ⟨gb113,0,none⟩=some (.int .i64 a1_0):=(blk_cell BK113.out 0).trans rfl;have hcz27_1:w24.cell? ⟨gb113,1,none⟩=some (.int .i64 a1_1):=(blk_cell BK113.out 1).trans rfl;have hcz27_2:w24.cell? ⟨gb113,2,none⟩=some (.int .i64 a1_2):=(blk_cell BK113.out 2).trans rfl;have hcz27_3:w24.cell? ⟨gb113,3,none⟩=some (.int .i64 a1_3):=(blk_cell BK113.out 3).trans rfl;have hcz27_4:w24.cell? ⟨gb113,4,none⟩=some (.slice A1_4 l1_4.length c1_4):=(blk_cell BK113.out 4).trans rfl;have hfz27_0:=blk_frozen BK113.out 0;have hfz27_1:=blk_frozen BK113.out 1;have hfz27_2:=blk_frozen BK113.out 2;have hfz27_3:=blk_frozen BK113.out 3;have hfz27_4:=blk_frozen BK113.out 4))
  go_ret
  exact ⟨by first|rfl|(simp [errW_none,errW_some]<;>rfl)|(simp [*,errW_none,errW_some]<;>rfl),bel⟩
 rw [if_pos c4] at H
 have c4b0:(a0_1 == a1_1)=true:=beq_iff_eq.mpr c4
 have c4b1:(a0_1 != a1_1)=false:=bne_eq_false_iff_eq.mpr c4
 clear c4
 by_cases c5:a0_2=a1_2
 rotate_left
 ·rw [if_neg c5] at H
  have c5b0:(a0_2 == a1_2)=false:=beq_eq_false_iff_ne.mpr c5
  have c5b1:(a0_2 != a1_2)=true:=bne_iff_ne.mpr c5
  obtain rfl:=Option.some.inj H
  go_enter Try.func26,Try.ntmps26
  go_wp2_with (first|((with_reducible refine gate_dst (N:=2) rfl ?_);refine box_event ?hg (N:=2) ?hd (cs:=#[.int .i64 a0_0,.int .i64 a0_1,.int .i64 a0_2,.int .i64 a0_3,.slice A0_4 l0_4.length c0_4]) (t:=41) ?hr ?_;(case hd=>rfl);(case hg=>rfl);(case hr=>first|(go_simp;done)|(go_simp;rfl));intro gb112 hg w18 hbox hb;have n0_:=Aside0.mk (below_step bel hb);have n1_:=Aside0.mk (hbox);have n2_:=Aside0.mk ((szl:w.heap.size≤gb112));have n3_:=Aside0.mk ((szl:w.heap.size≤gb112));clear HB;have HB:=n0_;have BK112:=n1_;have GW112:=n2_;have GE112:=n3_;clear n0_ n1_ n2_ n3_;clear hb hbox hg)|((with_reducible refine gate_dst (N:=3) rfl ?_);refine box_event ?hg (N:=3) ?hd (cs:=#[.int .i64 a1_0,.int .i64 a1_1,.int .i64 a1_2,.int .i64 a1_3,.slice A1_4 l1_4.length c1_4]) (t:=41) ?hr ?_;(case hd=>rfl);(case hg=>rfl);(case hr=>first|(go_simp;done)|(go_simp;rfl));intro gb113 hg w19 hbox hb;have n0_:=Aside0.mk (blk_below (g:=gb112) (o:=.cells #[.int .i64 a0_0,.int .i64 a0_1,.int .i64 a0_2,.int .i64 a0_3,.slice A0_4 l0_4.length c0_4] 41 (0,0)) (by (with_reducible repeat (first|refine blk_drewN ?_ _|refine blk_drew ?_|refine blk_alloc ?_ _));exact BK112.out) hb);have n1_:=Aside0.mk (below_step bel hb);have n2_:=Aside0.mk (hbox);have n3_:=Aside0.mk ((szl:w.heap.size≤gb113));have n4_:=Aside0.mk ((szl:w.heap.size≤gb113));have n5_:=Aside0.mk ((by rw [hg];exact Nat.ne_of_lt (blk_lt (g:=gb112) (o:=.cells #[.int .i64 a0_0,.int .i64 a0_1,.int .i64 a0_2,.int .i64 a0_3,.slice A0_4 l0_4.length c0_4] 41 (0,0)) (by (with_reducible repeat (first|refine blk_drewN ?_ _|refine blk_drew ?_|refine blk_alloc ?_ _));exact BK112.out)):gb112≠gb113));have n6_:=Aside0.mk ((by rw [hg];exact Nat.ne_of_gt (blk_lt (g:=gb112) (o:=.cells #[.int .i64 a0_0,.int .i64 a0_1,.int .i64 a0_2,.int .i64 a0_3,.slice A0_4 l0_4.length c0_4] 41 (0,0)) (by (with_reducible repeat (first|refine blk_drewN ?_ _|refine blk_drew ?_|refine blk_alloc ?_ _));exact BK112.out)):gb113≠gb112));clear BK112;clear HB;have BK112:=n0_;have HB:=n1_;have BK113:=n2_;have GW113:=n3_;have GE113:=n4_;have NB112_113:=n5_;have NB113_112:=n6_;clear n0_ n1_ n2_ n3_ n4_ n5_ n6_;clear hb hbox hg;have hnb20:=NB112_113.out;have hnc20:=NB113_112.out;have hcz21_0:w19.cell? ⟨gb112,0,none⟩=some (.int .i64 a0_0):=(blk_cell BK112.out 0).trans rfl;have hcz21_1:w19.cell? ⟨gb112,1,none⟩=some (.int .i64 a0_1):=(blk_cell BK112.out 1).trans rfl;have hcz21_2:w19.cell? ⟨gb112,2,none⟩=some (.int .i64 a0_2):=(blk_cell BK112.out 2).trans rfl;have hcz21_3:w19.cell? ⟨gb112,3,none⟩=some (.int .i64 a0_3):=(blk_cell BK112.out 3).trans rfl;have hcz21_4:w19.cell? ⟨gb112,4,none⟩=some (.slice A0_4 l0_4.length c0_4):=(blk_cell BK112.out 4).trans rfl;have hfz21_0:=blk_frozen BK112.out 0;have hfz21_1:=blk_frozen BK112.out 1;have hfz21_2:=blk_frozen BK112.out 2;have hfz21_3:=blk_frozen BK112.out 3;have hfz21_4:=blk_frozen BK112.out 4;have hcz22_0:w19.cell? ⟨gb113,0,none⟩=some (.int .i64 a1_0):=(blk_cell BK113.out 0).trans rfl;have hcz22_1:w19.cell? ⟨gb113,1,none⟩=some (.int .i64 a1_1):=(blk_cell BK113.out 1).trans rfl;have hcz22_2:w19.cell? ⟨gb113,2,none⟩=some (.int .i64 a1_2):=(blk_cell BK113.out 2).trans rfl;have hcz22_3:w19.cell? ⟨gb113,3,none⟩=some (.int .i64 a1_3):=(blk_cell BK113.out 3).trans rfl;have hcz22_4:w19.cell? ⟨gb113,4,none⟩=some (.slice A1_4 l1_4.length c1_4):=(blk_cell BK113.out 4).trans rfl;have hfz22_0:=blk_frozen BK113.out 0;have hfz22_1:=blk_frozen BK113.out 1;have hfz22_2:=blk_frozen BK113.out 2;have hfz22_3:=blk_frozen BK113.out 3;have hfz22_4:=blk_frozen BK113.out 4))
  go_ret
  exact ⟨by first|rfl|(simp [errW_none,errW_some]<;>rfl)|(simp [*,errW_none,errW_some]<;>rfl),bel⟩
 rw [if_pos c5] at H
 have c5b0:(a0_2 == a1_2)=true:=beq_iff_eq.mpr c5
 have c5b1:(a0_2 != a1_2)=false:=bne_eq_false_iff_eq.mpr c5
 clear c5
 by_cases c6:a0_3=a1_3
 rotate_left
 ·rw [if_neg c6] at H
  have c6b0:(a0_3 == a1_3)=false:=beq_eq_false_iff_ne.mpr c6
  have c6b1:(a0_3 != a1_3)=true:=bne_iff_ne.mpr c6
  obtain rfl:=Option.some.inj H
  go_enter Try.func26,Try.ntmps26
  go_wp2_with (first|((with_reducible refine gate_dst (N:=2) rfl ?_);refine box_event ?hg (N:=2) ?hd (cs:=#[.int .i64 a0_0,.int .i64 a0_1,.int .i64 a0_2,.int .i64 a0_3,.slice A0_4 l0_4.length c0_4]) (t:=41) ?hr ?_;(case hd=>rfl);(case hg=>rfl);(case hr=>first|(go_simp;done)|(go_simp;rfl));intro gb112 hg w13 hbox hb;have n0_:=Aside0.mk (below_step bel hb);have n1_:=Aside0.mk (hbox);have n2_:=Aside0.mk ((szl:w.heap.size≤gb112));have n3_:=Aside0.mk ((szl:w.heap.size≤gb112));clear HB;have HB:=n0_;have BK112:=n1_;have GW112:=n2_;have GE112:=n3_;clear n0_ n1_ n2_ n3_;clear hb hbox hg)|((with_reducible refine gate_dst (N:=3) rfl ?_);refine box_event ?hg (N:=3) ?hd (cs:=#[.int .i64 a1_0,.int .i64 a1_1,.int .i64 a1_2,.int .i64 a1_3,.slice A1_4 l1_4.length c1_4]) (t:=41) ?hr ?_;(case hd=>rfl);(case hg=>rfl);(case hr=>first|(go_simp;done)|(go_simp;rfl));intro gb113 hg w14 hbox hb;have n0_:=Aside0.mk (blk_below (g:=gb112) (o:=.cells #[.int .i64 a0_0,.int .i64 a0_1,.int .i64 a0_2,.int .i64 a0_3,.slice A0_4 l0_4.length c0_4] 41 (0,0)) (by (with_reducible repeat (first|refine blk_drewN ?_ _|refine blk_drew ?_|refine blk_alloc ?_ _));exact BK112.out) hb);have n1_:=Aside0.mk (below_step bel hb);have n2_:=Aside0.mk (hbox);have n3_:=Aside0.mk ((szl:w.heap.size≤gb113));have n4_:=Aside0.mk ((szl:w.heap.size≤gb113));have n5_:=Aside0.mk ((by rw [hg];exact Nat.ne_of_lt (blk_lt (g:=gb112) (o:=.cells #[.int .i64 a0_0,.int .i64 a0_1,.int .i64 a0_2,.int .i64 a0_3,.slice A0_4 l0_4.length c0_4] 41 (0,0)) (by (with_reducible repeat (first|refine blk_drewN ?_ _|refine blk_drew ?_|refine blk_alloc ?_ _));exact BK112.out)):gb112≠gb113));have n6_:=Aside0.mk ((by rw [hg];exact Nat.ne_of_gt (blk_lt (g:=gb112) (o:=.cells #[.int .i64 a0_0,.int .i64 a0_1,.int .i64 a0_2,.int .i64 a0_3,.slice A0_4 l0_4.length c0_4] 41 (0,0)) (by (with_reducible repeat (first|refine blk_drewN ?_ _|refine blk_drew ?_|refine blk_alloc ?_ _));exact BK112.out)):gb113≠gb112));clear BK112;clear HB;have BK112:=n0_;have HB:=n1_;have BK113:=n2_;have GW113:=n3_;have GE113:=n4_;have NB112_113:=n5_;have NB113_112:=n6_;clear n0_ n1_ n2_ n3_ n4_ n5_ n6_;clear hb hbox hg;have hnb15:=NB112_113.out;have hnc15:=NB113_112.out;have hcz16_0:w14.cell? ⟨gb112,0,none⟩=some (.int .i64 a0_0):=(blk_cell BK112.out 0).trans rfl;have hcz16_1:w14.cell? ⟨gb112,1,none⟩=some (.int .i64 a0_1):=(blk_cell BK112.out 1).trans rfl;have hcz16_2:w14.cell? ⟨gb112,2,none⟩=some (.int .i64 a0_2):=(blk_cell BK112.out 2).trans rfl;have hcz16_3:w14.cell? ⟨gb112,3,none⟩=some (.int .i64 a0_3):=(blk_cell BK112.out 3).trans rfl;have hcz16_4:w14.cell? ⟨gb112,4,none⟩=some (.slice A0_4 l0_4.length c0_4):=(blk_cell BK112.out 4).trans rfl;have hfz16_0:=blk_frozen BK112.out 0;have hfz16_1:=blk_frozen BK112.out 1;have hfz16_2:=blk_frozen BK112.out 2;have hfz16_3:=blk_frozen BK112.out 3;have hfz16_4:=blk_frozen BK112.out 4;have hcz17_0:w14.cell? ⟨gb113,0,none⟩=some (.int .i64 a1_0):=(blk_cell BK113.out 0).trans rfl;have hcz17_1:w14.cell? ⟨gb113,1,none⟩=some (.int .i64 a1_1):=(blk_cell BK113.out 1).trans rfl;have hcz17_2:w14.cell? ⟨gb113,2,none⟩=some (.int .i64 a1_2):=(blk_cell BK113.out 2).trans rfl;have hcz17_3:w14.cell? ⟨gb113,3,none⟩=some (.int .i64 a1_3):=(blk_cell BK113.out 3).trans rfl;have hcz17_4:w14.cell? ⟨gb113,4,none⟩=some (.slice A1_4 l1_4.length c1_4):=(blk_cell BK113.out 4).trans rfl;have hfz17_0:=blk_frozen BK113.out 0;have hfz17_1:=blk_frozen BK113.out 1;have hfz17_2:=blk_frozen BK113.out 2;have hfz17_3:=blk_frozen BK113.out 3;have hfz17_4:=blk_frozen BK113.out 4))
  go_ret
  exact ⟨by first|rfl|(simp [errW_none,errW_some]<;>rfl)|(simp [*,errW_none,errW_some]<;>rfl),bel⟩
 rw [if_pos c6] at H
 have c6b0:(a0_3 == a1_3)=true:=beq_iff_eq.mpr c6
 have c6b1:(a0_3 != a1_3)=false:=bne_eq_false_iff_eq.mpr c6
 clear c6
 replace H:=Option.bind_eq_some_iff.mp H
 obtain ⟨t114,A70,H⟩:=H
 replace H:(some t114)=some r:=H
 have A7:=Aside0.mk A70
 clear A70
 obtain rfl:=Option.some.inj H
 go_enter Try.func26,Try.ntmps26
 go_wp2_with (first|((with_reducible refine gate_dst (N:=2) rfl ?_);refine box_event ?hg (N:=2) ?hd (cs:=#[.int .i64 a0_0,.int .i64 a0_1,.int .i64 a0_2,.int .i64 a0_3,.slice A0_4 l0_4.length c0_4]) (t:=41) ?hr ?_;(case hd=>rfl);(case hg=>rfl);(case hr=>first|(go_simp;done)|(go_simp;rfl));intro gb112 hg w8 hbox hb;have n0_:=Aside0.mk (below_step bel hb);have n1_:=Aside0.mk (hbox);have n2_:=Aside0.mk ((szl:w.heap.size≤gb112));have n3_:=Aside0.mk ((szl:w.heap.size≤gb112));clear HB;have HB:=n0_;have BK112:=n1_;have GW112:=n2_;have GE112:=n3_;clear n0_ n1_ n2_ n3_;clear hb hbox hg)|((with_reducible refine gate_dst (N:=3) rfl ?_);refine box_event ?hg (N:=3) ?hd (cs:=#[.int .i64 a1_0,.int .i64 a1_1,.int .i64 a1_2,.int .i64 a1_3,.slice A1_4 l1_4.length c1_4]) (t:=41) ?hr ?_;(case hd=>rfl);(case hg=>rfl);(case hr=>first|(go_simp;done)|(go_simp;rfl));intro gb113 hg w9 hbox hb;have n0_:=Aside0.mk (blk_below (g:=gb112) (o:=.cells #[.int .i64 a0_0,.int .i64 a0_1,.int .i64 a0_2,.int .i64 a0_3,.slice A0_4 l0_4.length c0_4] 41 (0,0)) (by (with_reducible repeat (first|refine blk_drewN ?_ _|refine blk_drew ?_|refine blk_alloc ?_ _));exact BK112.out) hb);have n1_:=Aside0.mk (below_step bel hb);have n2_:=Aside0.mk (hbox);have n3_:=Aside0.mk ((szl:w.heap.size≤gb113));have n4_:=Aside0.mk ((szl:w.heap.size≤gb113));have n5_:=Aside0.mk ((by rw [hg];exact Nat.ne_of_lt (blk_lt (g:=gb112) (o:=.cells #[.int .i64 a0_0,.int .i64 a0_1,.int .i64 a0_2,.int .i64 a0_3,.slice A0_4 l0_4.length c0_4] 41 (0,0)) (by (with_reducible repeat (first|refine blk_drewN ?_ _|refine blk_drew ?_|refine blk_alloc ?_ _));exact BK112.out)):gb112≠gb113));have n6_:=Aside0.mk ((by rw [hg];exact Nat.ne_of_gt (blk_lt (g:=gb112) (o:=.cells #[.int .i64 a0_0,.int .i64 a0_1,.int .i64 a0_2,.int .i64 a0_3,.slice A0_4 l0_4.length c0_4] 41 (0,0)) (by (with_reducible repeat (first|refine blk_drewN ?_ _|refine blk_drew ?_|refine blk_alloc ?_ _));exact BK112.out)):gb113≠gb112));clear BK112;clear HB;have BK112:=n0_;have HB:=n1_;have BK113:=n2_;have GW113:=n3_;have GE113:=n4_;have NB112_113:=n5_;have NB113_112:=n6_;clear n0_ n1_ n2_ n3_ n4_ n5_ n6_;clear hb hbox hg;have hnb10:=NB112_113.out;have hnc10:=NB113_112.out;have hcz11_0:w9.cell? ⟨gb112,0,none⟩=some (.int .i64 a0_0):=(blk_cell BK112.out 0).trans rfl;have hcz11_1:w9.cell? ⟨gb112,1,none⟩=some (.int .i64 a0_1):=(blk_cell BK112.out 1).trans rfl;have hcz11_2:w9.cell? ⟨gb112,2,none⟩=some (.int .i64 a0_2):=(blk_cell BK112.out 2).trans rfl;have hcz11_3:w9.cell? ⟨gb112,3,none⟩=some (.int .i64 a0_3):=(blk_cell BK112.out 3).trans rfl;have hcz11_4:w9.cell? ⟨gb112,4,none⟩=some (.slice A0_4 l0_4.length c0_4):=(blk_cell BK112.out 4).trans rfl;have hfz11_0:=blk_frozen BK112.out 0;have hfz11_1:=blk_frozen BK112.out 1;have hfz11_2:=blk_frozen BK112.out 2;have hfz11_3:=blk_frozen BK112.out 3;have hfz11_4:=blk_frozen BK112.out 4;have hcz12_0:w9.cell? ⟨gb113,0,none⟩=some (.int .i64 a1_0):=(blk_cell BK113.out 0).trans rfl;have hcz12_1:w9.cell? ⟨gb113,1,none⟩=some (.int .i64 a1_1):=(blk_cell BK113.out 1).trans rfl;have hcz12_2:w9.cell? ⟨gb113,2,none⟩=some (.int .i64 a1_2):=(blk_cell BK113.out 2).trans rfl;have hcz12_3:w9.cell? ⟨gb113,3,none⟩=some (.int .i64 a1_3):=(blk_cell BK113.out 3).trans rfl;have hcz12_4:w9.cell? ⟨gb113,4,none⟩=some (.slice A1_4 l1_4.length c1_4):=(blk_cell BK113.out 4).trans rfl;have hfz12_0:=blk_frozen BK113.out 0;have hfz12_1:=blk_frozen BK113.out 1;have hfz12_2:=blk_frozen BK113.out 2;have hfz12_3:=blk_frozen BK113.out 3;have hfz12_4:=blk_frozen BK113.out 4)|(go_at_call 14;(with_reducible refine (r01_Texts.calls k _ _ l0_4 _ _ l1_4 t114 _ ?side1 ?side2 ?side3 ?side4 A7.out).mono ?_);(case side1=>repeat (first|exact (Kd.C_below HR0_4.out HB.out)|(with_reducible refine Kd.C_alloc ?_ _)|(with_reducible refine Kd.C_drewN ?_ _)|(with_reducible refine Kd.C_drew ?_)));(case side2=>exact HC0_4.out);(case side3=>repeat (first|exact (Kd.C_below HR1_4.out HB.out)|(with_reducible refine Kd.C_alloc ?_ _)|(with_reducible refine Kd.C_drewN ?_ _)|(with_reducible refine Kd.C_drew ?_)));(case side4=>exact HC1_4.out);rintro e w' ⟨rfl,⟨nd,rfl⟩⟩))
 go_ret
 exact ⟨by first|rfl|(simp [errW_none,errW_some]<;>rfl)|(simp [*,errW_none,errW_some]<;>rfl),bel⟩
end Go.Proofs.Ytoaijganmfijmaa.Pr
-- shrunk
-- written by a program of this session's (a turned copy of the kit's printer); Lean checks it
namespace Go.Proofs.Ytoaijganmfijmaa.Pr
open Go.RowKit Go.Proofs.YtoaijganmfijmaaW.PrintWords Go.Proofs.YtoaijganmfijmaaW.PrintLast Go.Proofs.YtoaijganmfijmaaW.PrintMore
attribute [local go_sem] max2_int min2_int max_two min_two max_three min_three max_four min_four   -- for this text's walks alone

def r05_Same.l0:Nat→List (S41)→List (S41)→Int→Option (Bool)
 | 0,_,_,_=>none
 | k+1,x0,x1,x5=>if x5<(x0.length:Int) then (if 0≤x5 then (if x5<(x1.length:Int) then ((r05_One.f k ((rd_T41 x0 x5).f0) ((rd_T41 x0 x5).f1) ((rd_T41 x0 x5).f2) ((rd_T41 x0 x5).f3) ((rd_T41 x0 x5).f4) ((rd_T41 x1 x5).f0) ((rd_T41 x1 x5).f1) ((rd_T41 x1 x5).f2) ((rd_T41 x1 x5).f3) ((rd_T41 x1 x5).f4)).bind fun t117=>(if t117=true then (r05_Same.l0 k x0 x1 (wrap64 (x5+1))) else (some false))) else (none)) else (none)) else (some true)
def r05_Same.f (k:Nat) (l0:List (S41)) (l1:List (S41)):Option (Bool):=if (l0.length:Int)=(l1.length:Int) then (r05_Same.l0 k l0 l1 0) else (some false)
theorem r05_Same.mono_l:∀ k,(∀ y0 y1 y2,LeO (r05_Same.l0 k y0 y1 y2) (r05_Same.l0 (k+1) y0 y1 y2))
 | 0=>fun _ _ _ r h=>by simp [r05_Same.l0] at h
 | k+1=>by
  have ih0:=r05_Same.mono_l k
  ·intro y0 y1 y2
   unfold r05_Same.l0
   repeat' first
   | (with_reducible exact ih0 _ _ _)
   | (with_reducible exact r05_One.mono _ _ _ _ _ _ _ _ _ _ _)
   | (with_reducible exact LeO.refl _)
   | (with_reducible exact LeO.none _)
   | (with_reducible refine LeO.ite ?_ ?_)
   | (with_reducible refine LeO.bind ?_ (fun _=>?_))
   | exact ih0 _ _ _
   | exact r05_One.mono _ _ _ _ _ _ _ _ _ _ _
   | exact LeO.none _
   | refine LeO.ite ?_ ?_
   | refine LeO.bind ?_ (fun _=>?_)
theorem r05_Same.mono:∀ a0 a1 k,LeO (r05_Same.f k a0 a1) (r05_Same.f (k+1) a0 a1):=by
 intro a0 a1 k
 have ih0:=r05_Same.mono_l k
 unfold r05_Same.f
 repeat' first
   | (with_reducible exact ih0 _ _ _)
   | (with_reducible exact r05_One.mono _ _ _ _ _ _ _ _ _ _ _)
   | (with_reducible exact LeO.refl _)
   | (with_reducible exact LeO.none _)
   | (with_reducible refine LeO.ite ?_ ?_)
   | (with_reducible refine LeO.bind ?_ (fun _=>?_))
   | exact ih0 _ _ _
   | exact r05_One.mono _ _ _ _ _ _ _ _ _ _ _
   | exact LeO.none _
   | refine LeO.ite ?_ ?_
   | refine LeO.bind ?_ (fun _=>?_)
def r05_Same.T6:Bool × List (List Nat × List Nat):=(true,[([],[]),([],[]),([0,1],[0,1]),([2],[2]),([],[]),([],[]),([4,5],[4,5]),([6],[6]),([3,7],[3,7]),([8,8,0,1,2,3,4,5,6,7,8],[8])])
def r05_Same.B6:List Nat:=[0,0,3,7,0,0,48,112,255,511]
theorem r05_Same.tab6:rtab .any (opsOf Try.f17 6)=r05_Same.T6:=by kernel_rfl
theorem r05_Same.bits6:waitsOk r05_Same.T6.2 r05_Same.B6=true:=by kernel_rfl
set_option maxHeartbeats 8000000 in
set_option maxRecDepth 100000 in
theorem r05_Same.calls (k:Nat) (A0:Option Addr) (c0:Nat) (l0:List (S41)) (A1:Option Addr) (c1:Nat) (l1:List (S41)) (r:Bool) (w:World) (hr0:Kd.C k41 w A0 l0.length l0) (hc0:l0.length≤c0) (hr1:Kd.C k41 w A1 l1.length l1) (hc1:l1.length≤c1) (h:r05_Same.f k l0 l1=some r) :
  Calls Try.prog 17 #[.slice A0 l0.length c0,.slice A1 l1.length c1] w fun e w'=>e=.returned (.bool r)∧Below w.heap.size w w':=by
 have hu41:=Try.underlying41
 have HR0:=Aside0.mk hr0
 have HC0:=Aside0.mk hc0
 clear hr0 hc0
 have HR1:=Aside0.mk hr1
 have HC1:=Aside0.mk hc1
 clear hr1 hc1
 have HB:=Aside0.mk (Below.refl w.heap.size w)
 have H:(if (l0.length:Int)=(l1.length:Int) then (r05_Same.l0 k l0 l1 0) else (some false))=some r:=h
 clear h
 by_cases c3:(l0.length:Int)=(l1.length:Int)
 rotate_left
 ·rw [if_neg c3] at H
  have c3b0:((l0.length:Int) == (l1.length:Int))=false:=beq_eq_false_iff_ne.mpr c3
  have c3b1:((l0.length:Int) != (l1.length:Int))=true:=bne_iff_ne.mpr c3
  have c3b2:(l0.length == l1.length)=false:=by first|simpa using c3|(simp at c3 ⊢;omega)
  obtain rfl:=Option.some.inj H
  go_enter Try.func17,Try.ntmps17
  go_wp2
  go_ret
  exact ⟨by first|rfl|(simp [errW_none,errW_some]<;>rfl)|(simp [*,errW_none,errW_some]<;>rfl),bel⟩

 rw [if_pos c3] at H
 have c3b0:((l0.length:Int) == (l1.length:Int))=true:=beq_iff_eq.mpr c3
 have c3b1:((l0.length:Int) != (l1.length:Int))=false:=bne_eq_false_iff_eq.mpr c3
 have c3b2:(l0.length == l1.length)=true:=by first|simpa using c3|(simp at c3 ⊢;omega)
 clear c3
 have H':=Aside0.mk H
 clear H
 go_enter Try.func17,Try.ntmps17
 go_wp2
 go_loopg [5] k (fun kq v5 w'=>∃ (x5_1:Int),v5=.int .i64 x5_1∧Aside0 (r05_Same.l0 kq l0 l1 x5_1=some r)∧Aside0 (kq≤k)∧Aside0 (Below w.heap.size w w'))
 case atStart=>exact ⟨(0),rx,H',⟨Nat.le_refl _⟩,⟨by repeat (first|(with_reducible first|exact HB.out|apply below_alloc|apply pw_below_drewN|apply below_drew1)|exact HB.out)⟩⟩
 case round =>
  clear H'
  try clear c1
  try clear p2
  try clear c3
  try clear c3b0
  try clear c3b1
  try clear c3b2
  obtain ⟨x5_1,rfl,HA,HK1,HB⟩:=hrel
  cases gk with
  | zero=>exact absurd HA.out (by simp [r05_Same.l0])
  | succ k1 =>
   have H:=HA.out
   clear HA
   simp only [r05_Same.l0] at H
   by_cases c4:x5_1<(l0.length:Int)
   rotate_left
   ·rw [if_neg c4] at H
    have c4b0:decide (x5_1<(l0.length:Int))=false:=decide_eq_false c4
    clear c4
    obtain rfl:=Option.some.inj H
    go_wp2
    go_ret
    exact ⟨by first|rfl|(simp [errW_none,errW_some]<;>rfl)|(simp [*,errW_none,errW_some]<;>rfl),bel⟩
   rw [if_pos c4] at H
   have c4b0:decide (x5_1<(l0.length:Int))=true:=decide_eq_true c4
   clear c4
   by_cases c5:0≤x5_1
   rotate_left
   ·rw [if_neg c5] at H
    exact absurd H (by simp)
   rw [if_pos c5] at H
   have c5b0:decide (0≤x5_1)=true:=decide_eq_true c5
   clear c5
   by_cases c6:x5_1<(l1.length:Int)
   rotate_left
   ·rw [if_neg c6] at H
    exact absurd H (by simp)
   rw [if_pos c6] at H
   have c6b0:decide (x5_1<(l1.length:Int))=true:=decide_eq_true c6
   clear c6
   replace H:=Option.bind_eq_some_iff.mp H
   obtain ⟨t117,A70,H⟩:=H
   replace H:(if t117=true then (r05_Same.l0 k1 l0 l1 (wrap64 (x5_1+1))) else (some false))=some r:=H
   have A7:=Aside0.mk A70
   clear A70
   by_cases c8:t117=true
   ·subst c8
    have H1:(r05_Same.l0 k1 l0 l1 (wrap64 (x5_1+1)))=some r:=by rw [if_pos rfl] at H;exact H
    clear H
    have H:=H1
    clear H1
    have H':=Aside0.mk H
    clear H
    try go_wp2
    have n0_:=Aside0.mk (below_drew1 HB.out)
    clear HB
    have HB:=n0_
    clear n0_
    have p115:0≤(x5_1:Int):=of_decide_eq_true asm
    have q115:x5_1<(l0.length:Int):=of_decide_eq_true asm
    obtain ⟨ad115,A115_4,c115_4,e115,hx115_0,hx115_1,hx115_2,hx115_3,hx115_4,hl115_4,hi115_4⟩:=at_T41 HR0.out x5_1 p115 q115
    have hw115_4:=hx115_4
    have hw115_3:=hx115_3
    have hw115_2:=hx115_2
    have hw115_1:=hx115_1
    have hw115_0:=hx115_0
    cases e115
    replace hx115_0:=pw_cell_below HB.out hx115_0
    replace hx115_1:=pw_cell_below HB.out hx115_1
    replace hx115_2:=pw_cell_below HB.out hx115_2
    replace hx115_3:=pw_cell_below HB.out hx115_3
    replace hx115_4:=pw_cell_below HB.out hx115_4
    have HR115_4:=Aside0.mk hi115_4
    have HC115_4:=Aside0.mk hl115_4
    clear hi115_4 hl115_4
    replace p115:=eq_true p115
    replace q115:=eq_true q115
    have p116:0≤(x5_1:Int):=of_decide_eq_true asm
    have q116:x5_1<(l1.length:Int):=of_decide_eq_true asm
    obtain ⟨ad116,A116_4,c116_4,e116,hx116_0,hx116_1,hx116_2,hx116_3,hx116_4,hl116_4,hi116_4⟩:=at_T41 HR1.out x5_1 p116 q116
    have hw116_4:=hx116_4
    have hw116_3:=hx116_3
    have hw116_2:=hx116_2
    have hw116_1:=hx116_1
    have hw116_0:=hx116_0
    cases e116
    replace hx116_0:=pw_cell_below HB.out hx116_0
    replace hx116_1:=pw_cell_below HB.out hx116_1
    replace hx116_2:=pw_cell_below HB.out hx116_2
    replace hx116_3:=pw_cell_below HB.out hx116_3
    replace hx116_4:=pw_cell_below HB.out hx116_4
    have HR116_4:=Aside0.mk hi116_4
    have HC116_4:=Aside0.mk hl116_4
    clear hi116_4 hl116_4
    replace p116:=eq_true p116
    replace q116:=eq_true q116
    refine start_ (n:=10) (S:=fun w'=>w'.cell? (ad115.add ((x5_1).toNat * 5))=some (.int .i64 ((rd_T41 l0 x5_1).f0))∧w'.cell? ⟨(ad115.add ((x5_1).toNat * 5)).block,(ad115.add ((x5_1).toNat * 5)).off+1,none⟩=some (.int .i64 ((rd_T41 l0 x5_1).f1))∧w'.cell? ⟨(ad115.add ((x5_1).toNat * 5)).block,(ad115.add ((x5_1).toNat * 5)).off+2,none⟩=some (.int .i64 ((rd_T41 l0 x5_1).f2))∧w'.cell? ⟨(ad115.add ((x5_1).toNat * 5)).block,(ad115.add ((x5_1).toNat * 5)).off+3,none⟩=some (.int .i64 ((rd_T41 l0 x5_1).f3))∧w'.cell? ⟨(ad115.add ((x5_1).toNat * 5)).block,(ad115.add ((x5_1).toNat * 5)).off+4,none⟩=some (.slice A115_4 ((rd_T41 l0 x5_1).f4).length c115_4)∧w'.cell? (ad116.add ((x5_1).toNat * 5))=some (.int .i64 ((rd_T41 l1 x5_1).f0))∧w'.cell? ⟨(ad116.add ((x5_1).toNat * 5)).block,(ad116.add ((x5_1).toNat * 5)).off+1,none⟩=some (.int .i64 ((rd_T41 l1 x5_1).f1))∧w'.cell? ⟨(ad116.add ((x5_1).toNat * 5)).block,(ad116.add ((x5_1).toNat * 5)).off+2,none⟩=some (.int .i64 ((rd_T41 l1 x5_1).f2))∧w'.cell? ⟨(ad116.add ((x5_1).toNat * 5)).block,(ad116.add ((x5_1).toNat * 5)).off+3,none⟩=some (.int .i64 ((rd_T41 l1 x5_1).f3))∧w'.cell? ⟨(ad116.add ((x5_1).toNat * 5)).block,(ad116.add ((x5_1).toNat * 5)).off+4,none⟩=some (.slice A116_4 ((rd_T41 l1 x5_1).f4).length c116_4)) (ds:=[]) #[false,false,false,false,false,false,false,false,false,false] (by kernel_rfl) rfl rfl ⟨((HB.out.cell (World.block_lt_of_cell? w _ hw115_0)).trans hw115_0),((HB.out.cell (World.block_lt_of_cell? w _ hw115_1)).trans hw115_1),((HB.out.cell (World.block_lt_of_cell? w _ hw115_2)).trans hw115_2),((HB.out.cell (World.block_lt_of_cell? w _ hw115_3)).trans hw115_3),((HB.out.cell (World.block_lt_of_cell? w _ hw115_4)).trans hw115_4),((HB.out.cell (World.block_lt_of_cell? w _ hw116_0)).trans hw116_0),((HB.out.cell (World.block_lt_of_cell? w _ hw116_1)).trans hw116_1),((HB.out.cell (World.block_lt_of_cell? w _ hw116_2)).trans hw116_2),((HB.out.cell (World.block_lt_of_cell? w _ hw116_3)).trans hw116_3),((HB.out.cell (World.block_lt_of_cell? w _ hw116_4)).trans hw116_4)⟩ (fun hHeld=>?_);refine with_tabW r05_Same.tab6 r05_Same.bits6 (fun HT_ HW_=>?_)
    generalize wr.drew=w9 at HB HR115_4 HR116_4 hx115_0 hx115_1 hx115_2 hx115_3 hx115_4 hx116_0 hx116_1 hx116_2 hx116_3 hx116_4 hHeld ⊢
    refine pu 0 (some 18) rfl rfl ?_
    refine pu 1 (some 19) rfl rfl ?_
    refine pu 2 (some 20) rfl rfl ?_
    refine pu 4 (some 22) rfl rfl ?_
    refine pu 5 (some 23) rfl rfl ?_
    refine pu 6 (some 24) rfl rfl ?_
    refine take_ (i:=3) (N:=some 21) (v:=?_) (a':=?_) #[true,true,true,true,true,true,true,false,false,false] rfl rfl (take_ofW HT_.out HW_.out (by kernel_rfl)) (fun _ _ _ h=>h) (Or.inl ⟨by rfl,?_⟩) hHeld ?_ ?_
    rotate_left
    ·rintro w' ⟨s0,s1,s2,s3,s4,s5,s6,s7,s8,s9⟩
     go_simp
     with_reducible rfl
    rotate_left
    ·simp only [Act.put,List.setIfInBounds_toArray,List.set_cons_zero,List.set_cons_succ,i64_w,i32_w]
     rfl
    refine take_ (i:=7) (N:=some 25) (v:=?_) (a':=?_) #[true,true,true,true,true,true,true,true,false,false] rfl rfl (take_ofW HT_.out HW_.out (by kernel_rfl)) (fun _ _ _ h=>h) (Or.inl ⟨by rfl,?_⟩) hHeld ?_ ?_
    rotate_left
    ·rintro w' ⟨s0,s1,s2,s3,s4,s5,s6,s7,s8,s9⟩
     go_simp
     with_reducible rfl
    rotate_left
    ·simp only [Act.put,List.setIfInBounds_toArray,List.set_cons_zero,List.set_cons_succ,i64_w,i32_w]
     rfl
    refine one_ (i:=8) (N:=some 26) #[true,true,true,true,true,true,true,true,true,false] rfl rfl (one_of HT_.out (by kernel_rfl)) (by decide) (fun K hK=>?_)
    refine goes_ Try.func26 (by kernel_rfl) rfl #[.agg #[.int .i64 ((rd_T41 l0 x5_1).f0),.int .i64 ((rd_T41 l0 x5_1).f1),.int .i64 ((rd_T41 l0 x5_1).f2),.int .i64 ((rd_T41 l0 x5_1).f3),.slice A115_4 ((rd_T41 l0 x5_1).f4).length c115_4],.agg #[.int .i64 ((rd_T41 l1 x5_1).f0),.int .i64 ((rd_T41 l1 x5_1).f1),.int .i64 ((rd_T41 l1 x5_1).f2),.int .i64 ((rd_T41 l1 x5_1).f3),.slice A116_4 ((rd_T41 l1 x5_1).f4).length c116_4]] (by rfl) rfl rfl (by (try simp only [List.map_toArray,List.map_cons,List.map_nil]);first|done|rfl|(simp only [List.length_drop,List.length_take];rfl)) ?_
    with_reducible refine (r05_One.calls k1 ((rd_T41 l0 x5_1).f0) ((rd_T41 l0 x5_1).f1) ((rd_T41 l0 x5_1).f2) ((rd_T41 l0 x5_1).f3) _ _ ((rd_T41 l0 x5_1).f4) ((rd_T41 l1 x5_1).f0) ((rd_T41 l1 x5_1).f1) ((rd_T41 l1 x5_1).f2) ((rd_T41 l1 x5_1).f3) _ _ ((rd_T41 l1 x5_1).f4) true _ ?side1 ?side2 ?side3 ?side4 A7.out).mono ?_
    (case side1=>repeat (first|exact (Kd.C_below HR115_4.out HB.out)|(with_reducible refine Kd.C_alloc ?_ _)|(with_reducible refine Kd.C_drewN ?_ _)|(with_reducible refine Kd.C_drew ?_)))
    (case side2=>exact HC115_4.out)
    (case side3=>repeat (first|exact (Kd.C_below HR116_4.out HB.out)|(with_reducible refine Kd.C_alloc ?_ _)|(with_reducible refine Kd.C_drewN ?_ _)|(with_reducible refine Kd.C_drew ?_)))
    (case side4=>exact HC116_4.out)
    rintro e w10 ⟨rfl,hb⟩
    refine ⟨_,rfl,?_⟩
    have n0_:=Aside0.mk (below_step bel hb)
    clear HB
    have HB:=n0_
    clear n0_
    (try clear hb)
    (try clear hb2)
    (try clear hk)
    (try clear hi)
    refine hK.out _ _ ⟨((HB.out.cell (World.block_lt_of_cell? w _ hw115_0)).trans hw115_0),((HB.out.cell (World.block_lt_of_cell? w _ hw115_1)).trans hw115_1),((HB.out.cell (World.block_lt_of_cell? w _ hw115_2)).trans hw115_2),((HB.out.cell (World.block_lt_of_cell? w _ hw115_3)).trans hw115_3),((HB.out.cell (World.block_lt_of_cell? w _ hw115_4)).trans hw115_4),((HB.out.cell (World.block_lt_of_cell? w _ hw116_0)).trans hw116_0),((HB.out.cell (World.block_lt_of_cell? w _ hw116_1)).trans hw116_1),((HB.out.cell (World.block_lt_of_cell? w _ hw116_2)).trans hw116_2),((HB.out.cell (World.block_lt_of_cell? w _ hw116_3)).trans hw116_3),((HB.out.cell (World.block_lt_of_cell? w _ hw116_4)).trans hw116_4)⟩ (fun hHeld=>?_)
    clear hK K
    refine norm_ (a':=?_) ?_ ?_
    rotate_left
    ·show Act.put _ (some 26) _=_
     simp only [Act.put,List.setIfInBounds_toArray,List.set_cons_zero,List.set_cons_succ,i64_w,i32_w]
     rfl
    refine pure_ (i:=9) (N:=some 6) (v:=?_) (a':=?_) #[true,true,true,true,true,true,true,true,true,true] rfl rfl (any_of HT_.out (by kernel_rfl)) (fun _ _ _ h=>h) (Or.inl ⟨by rfl,?_⟩) ?_ ?_
    rotate_left
    ·intro w'
     go_simp
     with_reducible rfl
    rotate_left
    ·simp only [Act.put,List.setIfInBounds_toArray,List.set_cons_zero,List.set_cons_succ,i64_w,i32_w]
     rfl
    refine done_ (done_of HT_.out (by kernel_rfl)) ?_
    try go_wp2
    go_roundg k1
    case measure=>have:=HK1.out;omega
    case rel=>exact ⟨(wrap64 (x5_1+1)),rx,H',⟨by have:=HK1.out;omega⟩,⟨by repeat (first|(with_reducible first|exact HB.out|apply below_alloc|apply pw_below_drewN|apply below_drew1)|exact HB.out)⟩⟩
   replace c8:=Bool.eq_false_iff.mpr c8
   subst c8
   have H1:(some false)=some r:=by rw [if_neg (show ¬ (false=true) by decide)] at H;exact H
   clear H
   have H:=H1
   clear H1
   obtain rfl:=Option.some.inj H
   try go_wp2
   have n0_:=Aside0.mk (below_drew1 HB.out)
   clear HB
   have HB:=n0_
   clear n0_
   have p115:0≤(x5_1:Int):=of_decide_eq_true asm
   have q115:x5_1<(l0.length:Int):=of_decide_eq_true asm
   obtain ⟨ad115,A115_4,c115_4,e115,hx115_0,hx115_1,hx115_2,hx115_3,hx115_4,hl115_4,hi115_4⟩:=at_T41 HR0.out x5_1 p115 q115
   have hw115_4:=hx115_4
   have hw115_3:=hx115_3
   have hw115_2:=hx115_2
   have hw115_1:=hx115_1
   have hw115_0:=hx115_0
   cases e115
   replace hx115_0:=pw_cell_below HB.out hx115_0
   replace hx115_1:=pw_cell_below HB.out hx115_1
   replace hx115_2:=pw_cell_below HB.out hx115_2
   replace hx115_3:=pw_cell_below HB.out hx115_3
   replace hx115_4:=pw_cell_below HB.out hx115_4
   have HR115_4:=Aside0.mk hi115_4
   have HC115_4:=Aside0.mk hl115_4
   clear hi115_4 hl115_4
   replace p115:=eq_true p115
   replace q115:=eq_true q115
   have p116:0≤(x5_1:Int):=of_decide_eq_true asm
   have q116:x5_1<(l1.length:Int):=of_decide_eq_true asm
   obtain ⟨ad116,A116_4,c116_4,e116,hx116_0,hx116_1,hx116_2,hx116_3,hx116_4,hl116_4,hi116_4⟩:=at_T41 HR1.out x5_1 p116 q116
   have hw116_4:=hx116_4
   have hw116_3:=hx116_3
   have hw116_2:=hx116_2
   have hw116_1:=hx116_1
   have hw116_0:=hx116_0
   cases e116
   replace hx116_0:=pw_cell_below HB.out hx116_0
   replace hx116_1:=pw_cell_below HB.out hx116_1
   replace hx116_2:=pw_cell_below HB.out hx116_2
   replace hx116_3:=pw_cell_below HB.out hx116_3
   replace hx116_4:=pw_cell_below HB.out hx116_4
   have HR116_4:=Aside0.mk hi116_4
   have HC116_4:=Aside0.mk hl116_4
   clear hi116_4 hl116_4
   replace p116:=eq_true p116
   replace q116:=eq_true q116
   refine start_ (n:=10) (S:=fun w'=>w'.cell? (ad115.add ((x5_1).toNat * 5))=some (.int .i64 ((rd_T41 l0 x5_1).f0))∧w'.cell? ⟨(ad115.add ((x5_1).toNat * 5)).block,(ad115.add ((x5_1).toNat * 5)).off+1,none⟩=some (.int .i64 ((rd_T41 l0 x5_1).f1))∧w'.cell? ⟨(ad115.add ((x5_1).toNat * 5)).block,(ad115.add ((x5_1).toNat * 5)).off+2,none⟩=some (.int .i64 ((rd_T41 l0 x5_1).f2))∧w'.cell? ⟨(ad115.add ((x5_1).toNat * 5)).block,(ad115.add ((x5_1).toNat * 5)).off+3,none⟩=some (.int .i64 ((rd_T41 l0 x5_1).f3))∧w'.cell? ⟨(ad115.add ((x5_1).toNat * 5)).block,(ad115.add ((x5_1).toNat * 5)).off+4,none⟩=some (.slice A115_4 ((rd_T41 l0 x5_1).f4).length c115_4)∧w'.cell? (ad116.add ((x5_1).toNat * 5))=some (.int .i64 ((rd_T41 l1 x5_1).f0))∧w'.cell? ⟨(ad116.add ((x5_1).toNat * 5)).block,(ad116.add ((x5_1).toNat * 5)).off+1,none⟩=some (.int .i64 ((rd_T41 l1 x5_1).f1))∧w'.cell? ⟨(ad116.add ((x5_1).toNat * 5)).block,(ad116.add ((x5_1).toNat * 5)).off+2,none⟩=some (.int .i64 ((rd_T41 l1 x5_1).f2))∧w'.cell? ⟨(ad116.add ((x5_1).toNat * 5)).block,(ad116.add ((x5_1).toNat * 5)).off+3,none⟩=some (.int .i64 ((rd_T41 l1 x5_1).f3))∧w'.cell? ⟨(ad116.add ((x5_1).toNat * 5)).block,(ad116.add ((x5_1).toNat * 5)).off+4,none⟩=some (.slice A116_4 ((rd_T41 l1 x5_1).f4).length c116_4)) (ds:=[]) #[false,false,false,false,false,false,false,false,false,false] (by kernel_rfl) rfl rfl ⟨((HB.out.cell (World.block_lt_of_cell? w _ hw115_0)).trans hw115_0),((HB.out.cell (World.block_lt_of_cell? w _ hw115_1)).trans hw115_1),((HB.out.cell (World.block_lt_of_cell? w _ hw115_2)).trans hw115_2),((HB.out.cell (World.block_lt_of_cell? w _ hw115_3)).trans hw115_3),((HB.out.cell (World.block_lt_of_cell? w _ hw115_4)).trans hw115_4),((HB.out.cell (World.block_lt_of_cell? w _ hw116_0)).trans hw116_0),((HB.out.cell (World.block_lt_of_cell? w _ hw116_1)).trans hw116_1),((HB.out.cell (World.block_lt_of_cell? w _ hw116_2)).trans hw116_2),((HB.out.cell (World.block_lt_of_cell? w _ hw116_3)).trans hw116_3),((HB.out.cell (World.block_lt_of_cell? w _ hw116_4)).trans hw116_4)⟩ (fun hHeld=>?_);refine with_tabW r05_Same.tab6 r05_Same.bits6 (fun HT_ HW_=>?_)
   generalize wr.drew=w11 at HB HR115_4 HR116_4 hx115_0 hx115_1 hx115_2 hx115_3 hx115_4 hx116_0 hx116_1 hx116_2 hx116_3 hx116_4 hHeld ⊢
   refine pu 0 (some 18) rfl rfl ?_
   refine pu 1 (some 19) rfl rfl ?_
   refine pu 2 (some 20) rfl rfl ?_
   refine pu 4 (some 22) rfl rfl ?_
   refine pu 5 (some 23) rfl rfl ?_
   refine pu 6 (some 24) rfl rfl ?_
   refine take_ (i:=3) (N:=some 21) (v:=?_) (a':=?_) #[true,true,true,true,true,true,true,false,false,false] rfl rfl (take_ofW HT_.out HW_.out (by kernel_rfl)) (fun _ _ _ h=>h) (Or.inl ⟨by rfl,?_⟩) hHeld ?_ ?_
   rotate_left
   ·rintro w' ⟨s0,s1,s2,s3,s4,s5,s6,s7,s8,s9⟩
    go_simp
    with_reducible rfl
   rotate_left
   ·simp only [Act.put,List.setIfInBounds_toArray,List.set_cons_zero,List.set_cons_succ,i64_w,i32_w]
    rfl
   refine take_ (i:=7) (N:=some 25) (v:=?_) (a':=?_) #[true,true,true,true,true,true,true,true,false,false] rfl rfl (take_ofW HT_.out HW_.out (by kernel_rfl)) (fun _ _ _ h=>h) (Or.inl ⟨by rfl,?_⟩) hHeld ?_ ?_
   rotate_left
   ·rintro w' ⟨s0,s1,s2,s3,s4,s5,s6,s7,s8,s9⟩
    go_simp
    with_reducible rfl
   rotate_left
   ·simp only [Act.put,List.setIfInBounds_toArray,List.set_cons_zero,List.set_cons_succ,i64_w,i32_w]
    rfl
   refine one_ (i:=8) (N:=some 26) #[true,true,true,true,true,true,true,true,true,false] rfl rfl (one_of HT_.out (by kernel_rfl)) (by decide) (fun K hK=>?_)
   refine goes_ Try.func26 (by kernel_rfl) rfl #[.agg #[.int .i64 ((rd_T41 l0 x5_1).f0),.int .i64 ((rd_T41 l0 x5_1).f1),.int .i64 ((rd_T41 l0 x5_1).f2),.int .i64 ((rd_T41 l0 x5_1).f3),.slice A115_4 ((rd_T41 l0 x5_1).f4).length c115_4],.agg #[.int .i64 ((rd_T41 l1 x5_1).f0),.int .i64 ((rd_T41 l1 x5_1).f1),.int .i64 ((rd_T41 l1 x5_1).f2),.int .i64 ((rd_T41 l1 x5_1).f3),.slice A116_4 ((rd_T41 l1 x5_1).f4).length c116_4]] (by rfl) rfl rfl (by (try simp only [List.map_toArray,List.map_cons,List.map_nil]);first|done|rfl|(simp only [List.length_drop,List.length_take];rfl)) ?_
   with_reducible refine (r05_One.calls k1 ((rd_T41 l0 x5_1).f0) ((rd_T41 l0 x5_1).f1) ((rd_T41 l0 x5_1).f2) ((rd_T41 l0 x5_1).f3) _ _ ((rd_T41 l0 x5_1).f4) ((rd_T41 l1 x5_1).f0) ((rd_T41 l1 x5_1).f1) ((rd_T41 l1 x5_1).f2) ((rd_T41 l1 x5_1).f3) _ _ ((rd_T41 l1 x5_1).f4) false _ ?side1 ?side2 ?side3 ?side4 A7.out).mono ?_
   (case side1=>repeat (first|exact (Kd.C_below HR115_4.out HB.out)|(with_reducible refine Kd.C_alloc ?_ _)|(with_reducible refine Kd.C_drewN ?_ _)|(with_reducible refine Kd.C_drew ?_)))
   (case side2=>exact HC115_4.out)
   (case side3=>repeat (first|exact (Kd.C_below HR116_4.out HB.out)|(with_reducible refine Kd.C_alloc ?_ _)|(with_reducible refine Kd.C_drewN ?_ _)|(with_reducible refine Kd.C_drew ?_)))
   (case side4=>exact HC116_4.out)
   rintro e w12 ⟨rfl,hb⟩
   refine ⟨_,rfl,?_⟩
   have n0_:=Aside0.mk (below_step bel hb)
   clear HB
   have HB:=n0_
   clear n0_
   (try clear hb)
   (try clear hb2)
   (try clear hk)
   (try clear hi)
   refine hK.out _ _ ⟨((HB.out.cell (World.block_lt_of_cell? w _ hw115_0)).trans hw115_0),((HB.out.cell (World.block_lt_of_cell? w _ hw115_1)).trans hw115_1),((HB.out.cell (World.block_lt_of_cell? w _ hw115_2)).trans hw115_2),((HB.out.cell (World.block_lt_of_cell? w _ hw115_3)).trans hw115_3),((HB.out.cell (World.block_lt_of_cell? w _ hw115_4)).trans hw115_4),((HB.out.cell (World.block_lt_of_cell? w _ hw116_0)).trans hw116_0),((HB.out.cell (World.block_lt_of_cell? w _ hw116_1)).trans hw116_1),((HB.out.cell (World.block_lt_of_cell? w _ hw116_2)).trans hw116_2),((HB.out.cell (World.block_lt_of_cell? w _ hw116_3)).trans hw116_3),((HB.out.cell (World.block_lt_of_cell? w _ hw116_4)).trans hw116_4)⟩ (fun hHeld=>?_)
   clear hK K
   refine norm_ (a':=?_) ?_ ?_
   rotate_left
   ·show Act.put _ (some 26) _=_
    simp only [Act.put,List.setIfInBounds_toArray,List.set_cons_zero,List.set_cons_succ,i64_w,i32_w]
    rfl
   refine pure_ (i:=9) (N:=some 6) (v:=?_) (a':=?_) #[true,true,true,true,true,true,true,true,true,true] rfl rfl (any_of HT_.out (by kernel_rfl)) (fun _ _ _ h=>h) (Or.inl ⟨by rfl,?_⟩) ?_ ?_
   rotate_left
   ·intro w'
    go_simp
    with_reducible rfl
   rotate_left
   ·simp only [Act.put,List.setIfInBounds_toArray,List.set_cons_zero,List.set_cons_succ,i64_w,i32_w]
    rfl
   refine done_ (done_of HT_.out (by kernel_rfl)) ?_
   try go_wp2
   go_ret
   exact ⟨by first|rfl|(simp [errW_none,errW_some]<;>rfl)|(simp [*,errW_none,errW_some]<;>rfl),bel⟩
end Go.Proofs.Ytoaijganmfijmaa.Pr
-- shrunk
/-
The document's Same of hunks: a list is the same as itself; what is read of a list of hunks.
-/
namespace Go.Proofs.Ytoaijganmfijmaa.Pr
open Go.RowKit Go.Proofs.YtoaijganmfijmaaW.PrintWords Go.Proofs.YtoaijganmfijmaaW.PrintLast Go.Proofs.YtoaijganmfijmaaW.PrintMore
theorem OneS_ev (h:Hk) (hl:h.f4.length≤4611686018427387904):Ev (fun k=>r05_One.f k h.f0 h.f1 h.f2 h.f3 h.f4 h.f0 h.f1 h.f2 h.f3 h.f4) true:=by
 unfold r05_One.f
 simp only [if_true]
 have h2:=Texts_ev h.f4 h.f4 hl
 rw [decide_eq_true rfl] at h2
 refine Ev.bind h2 ?_
 exact Ev.now _
theorem rdH_at {xs:List Hk} {i:Nat} (h:i<xs.length):rd_T41 xs (i:Int)=xs[i]:=by
 rw [rd_T41,Int.toNat_natCast,List.getD_eq_getElem?_getD,List.getElem?_eq_getElem h,Option.getD_some]
theorem SameH_l0 (a:List Hk) (hn:a.length≤4611686018427387904) (hl:∀ h ∈ a,h.f4.length≤4611686018427387904):∀ d i,a.length - i=d→i≤a.length→Ev (fun k=>r05_Same.l0 k a a (i:Int)) true:=by
 intro d
 induction d with
 | zero =>
  intro i hd hi
  refine Ev.step (fun _=>r05_Same.l0.eq_2 ..) ?_
  simp only [if_neg (show ¬ (i:Int)<(a.length:Int) by omega)]
  exact Ev.now _
 | succ d ih =>
  intro i hd hi
  refine Ev.step (fun _=>r05_Same.l0.eq_2 ..) ?_
  have h0:i<a.length:=by omega
  simp only [if_pos (show (i:Int)<(a.length:Int) by omega),if_pos (show 0≤(i:Int) by omega),rdH_at h0,w_succ h0 hn]
  refine Ev.bind (OneS_ev _ (hl _ (List.getElem_mem h0))) ?_
  simp only [if_true]
  exact ih (i+1) (by omega) (by omega)
theorem SameH_ev (a:List Hk) (hn:a.length≤4611686018427387904) (hl:∀ h ∈ a,h.f4.length≤4611686018427387904):Ev (fun k=>r05_Same.f k a a) true:=by
 unfold r05_Same.f
 simp only [if_true]
 exact SameH_l0 a hn hl _ 0 rfl (by omega)
end Go.Proofs.Ytoaijganmfijmaa.Pr
-- shrunk
-- written by a program of this session's (a turned copy of the kit's printer); Lean checks it
namespace Go.Proofs.Ytoaijganmfijmaa.Pr
open Go.RowKit Go.Proofs.YtoaijganmfijmaaW.PrintWords Go.Proofs.YtoaijganmfijmaaW.PrintLast Go.Proofs.YtoaijganmfijmaaW.PrintMore
attribute [local go_sem] max2_int min2_int max_two min_two max_three min_three max_four min_four   -- for this text's walks alone

def apply_Right.l0:Nat→Int→Int→List (S41)→Int→Int→Option (Bool)
 | 0,_,_,_,_,_=>none
 | k+1,x3,x4,x7,x8,x9=>if x9<x8 then (if 0≤x9 then (if x9<(x7.length:Int) then ((hunk_Right.f k ((rd_T41 x7 x9).f0) ((rd_T41 x7 x9).f1) ((rd_T41 x7 x9).f2) ((rd_T41 x7 x9).f3) ((rd_T41 x7 x9).f4)).bind fun t108=>(if t108=true then (if ((rd_T41 x7 x9).f0)<x3 then (some false) else (if ((rd_T41 x7 x9).f2)=(wrap64 (((rd_T41 x7 x9).f0)+x4)) then (apply_Right.l0 k (wrap64 (((rd_T41 x7 x9).f0)+((rd_T41 x7 x9).f1))) (wrap64 ((wrap64 (x4+((rd_T41 x7 x9).f3))) - ((rd_T41 x7 x9).f1))) x7 x8 (wrap64 (x9+1))) else (some false))) else (some false))) else (none)) else (none)) else (some true)
def apply_Right.f (k:Nat) (l0:List (S41)):Option (Bool):=apply_Right.l0 k 0 0 l0 (l0.length:Int) 0
theorem apply_Right.mono_l:∀ k,(∀ y0 y1 y2 y3 y4,LeO (apply_Right.l0 k y0 y1 y2 y3 y4) (apply_Right.l0 (k+1) y0 y1 y2 y3 y4))
 | 0=>fun _ _ _ _ _ r h=>by simp [apply_Right.l0] at h
 | k+1=>by
  have ih0:=apply_Right.mono_l k
  ·intro y0 y1 y2 y3 y4
   unfold apply_Right.l0
   repeat' first
   | (with_reducible exact ih0 _ _ _ _ _)
   | (with_reducible exact hunk_Right.mono _ _ _ _ _ _)
   | (with_reducible exact LeO.refl _)
   | (with_reducible exact LeO.none _)
   | (with_reducible refine LeO.ite ?_ ?_)
   | (with_reducible refine LeO.bind ?_ (fun _=>?_))
   | exact ih0 _ _ _ _ _
   | exact hunk_Right.mono _ _ _ _ _ _
   | exact LeO.none _
   | refine LeO.ite ?_ ?_
   | refine LeO.bind ?_ (fun _=>?_)
theorem apply_Right.mono:∀ a0 k,LeO (apply_Right.f k a0) (apply_Right.f (k+1) a0):=by
 intro a0 k
 have ih0:=apply_Right.mono_l k
 unfold apply_Right.f
 repeat' first
   | (with_reducible exact ih0 _ _ _ _ _)
   | (with_reducible exact hunk_Right.mono _ _ _ _ _ _)
   | (with_reducible exact LeO.refl _)
   | (with_reducible exact LeO.none _)
   | (with_reducible refine LeO.ite ?_ ?_)
   | (with_reducible refine LeO.bind ?_ (fun _=>?_))
   | exact ih0 _ _ _ _ _
   | exact hunk_Right.mono _ _ _ _ _ _
   | exact LeO.none _
   | refine LeO.ite ?_ ?_
   | refine LeO.bind ?_ (fun _=>?_)
set_option maxHeartbeats 8000000 in
set_option maxRecDepth 100000 in
theorem apply_Right.calls (k:Nat) (A0:Option Addr) (c0:Nat) (l0:List (S41)) (r:Bool) (w:World) (hr0:Kd.C k41 w A0 l0.length l0) (hc0:l0.length≤c0) (h:apply_Right.f k l0=some r) :
  Calls Try.prog 15 #[.slice A0 l0.length c0] w fun e w'=>e=.returned (.bool r)∧Below w.heap.size w w':=by
 have hu41:=Try.underlying41
 have HR0:=Aside0.mk hr0
 have HC0:=Aside0.mk hc0
 clear hr0 hc0
 have HB:=Aside0.mk (Below.refl w.heap.size w)
 have H:(apply_Right.l0 k 0 0 l0 (l0.length:Int) 0)=some r:=h
 clear h
 have H':=Aside0.mk H
 clear H
 go_enter Try.func15,Try.ntmps15
 go_wp2
 go_loopg [3,4,9] k (fun kq v3 v4 v9 w'=>∃ (x3_1:Int) (x4_1:Int) (x9_1:Int),v3=.int .i64 x3_1∧v4=.int .i64 x4_1∧v9=.int .i64 x9_1∧Aside0 (apply_Right.l0 kq x3_1 x4_1 l0 (l0.length:Int) x9_1=some r)∧Aside0 (kq≤k)∧Aside0 (Below w.heap.size w w'))
 case atStart=>exact ⟨(0),(0),(0),rx,rx,rx,H',⟨Nat.le_refl _⟩,⟨by repeat (first|(with_reducible first|exact HB.out|apply below_alloc|apply pw_below_drewN|apply below_drew1)|exact HB.out)⟩⟩
 case round =>
  clear H'
  try clear c1
  obtain ⟨x3_1,x4_1,x9_1,rfl,rfl,rfl,HA,HK1,HB⟩:=hrel
  cases gk with
  | zero=>exact absurd HA.out (by simp [apply_Right.l0])
  | succ k1 =>
   have H:=HA.out
   clear HA
   simp only [apply_Right.l0] at H
   by_cases c2:x9_1<(l0.length:Int)
   ·rw [if_pos c2] at H
    have c2b0:decide (x9_1<(l0.length:Int))=true:=decide_eq_true c2
    clear c2
    by_cases c3:0≤x9_1
    ·rw [if_pos c3] at H
     have c3b0:decide (0≤x9_1)=true:=decide_eq_true c3
     clear c3
     by_cases c4:x9_1<(l0.length:Int)
     ·rw [if_pos c4] at H
      have c4b0:decide (x9_1<(l0.length:Int))=true:=decide_eq_true c4
      clear c4
      replace H:=Option.bind_eq_some_iff.mp H
      obtain ⟨t108,A50,H⟩:=H
      replace H:(if t108=true then (if ((rd_T41 l0 x9_1).f0)<x3_1 then (some false) else (if ((rd_T41 l0 x9_1).f2)=(wrap64 (((rd_T41 l0 x9_1).f0)+x4_1)) then (apply_Right.l0 k1 (wrap64 (((rd_T41 l0 x9_1).f0)+((rd_T41 l0 x9_1).f1))) (wrap64 ((wrap64 (x4_1+((rd_T41 l0 x9_1).f3))) - ((rd_T41 l0 x9_1).f1))) l0 (l0.length:Int) (wrap64 (x9_1+1))) else (some false))) else (some false))=some r:=H
      have A5:=Aside0.mk A50
      clear A50
      by_cases c6:t108=true
      ·subst c6
       have H1:(if ((rd_T41 l0 x9_1).f0)<x3_1 then (some false) else (if ((rd_T41 l0 x9_1).f2)=(wrap64 (((rd_T41 l0 x9_1).f0)+x4_1)) then (apply_Right.l0 k1 (wrap64 (((rd_T41 l0 x9_1).f0)+((rd_T41 l0 x9_1).f1))) (wrap64 ((wrap64 (x4_1+((rd_T41 l0 x9_1).f3))) - ((rd_T41 l0 x9_1).f1))) l0 (l0.length:Int) (wrap64 (x9_1+1))) else (some false)))=some r:=by rw [if_pos rfl] at H;exact H
       clear H
       have H:=H1
       clear H1
       by_cases c7:((rd_T41 l0 x9_1).f0)<x3_1
       ·rw [if_pos c7] at H
        have c7b0:decide (((rd_T41 l0 x9_1).f0)<x3_1)=true:=decide_eq_true c7
        clear c7
        obtain rfl:=Option.some.inj H
        have p106:0≤(x9_1:Int):=of_decide_eq_true asm
        have q106:x9_1<(l0.length:Int):=of_decide_eq_true asm
        obtain ⟨ad106,A106_4,c106_4,e106,hx106_0,hx106_1,hx106_2,hx106_3,hx106_4,hl106_4,hi106_4⟩:=at_T41 HR0.out x9_1 p106 q106
        cases e106
        replace hx106_0:=pw_cell_below HB.out hx106_0
        replace hx106_1:=pw_cell_below HB.out hx106_1
        replace hx106_2:=pw_cell_below HB.out hx106_2
        replace hx106_3:=pw_cell_below HB.out hx106_3
        replace hx106_4:=pw_cell_below HB.out hx106_4
        have HR106_4:=Aside0.mk hi106_4
        have HC106_4:=Aside0.mk hl106_4
        clear hi106_4 hl106_4
        replace p106:=eq_true p106
        replace q106:=eq_true q106
        go_wp2_with (first|((with_reducible refine gate_dst (N:=6) rfl ?_);refine box_event ?hg (N:=6) ?hd (cs:=#[.int .i64 0,.int .i64 0,.int .i64 0,.int .i64 0,.slice none 0 0]) (t:=41) ?hr ?_;(case hd=>rfl);(case hg=>rfl);(case hr=>first|(go_simp;done)|(go_simp;rfl));intro gb107 hg w8 hbox hb;have n0_:=Aside0.mk (below_step bel hb);have n1_:=Aside0.mk (hbox);have n2_:=Aside0.mk ((szl:w.heap.size≤gb107));have n3_:=Aside0.mk ((szl:w.heap.size≤gb107));clear HB;have HB:=n0_;have BK107:=n1_;have GW107:=n2_;have GE107:=n3_;clear n0_ n1_ n2_ n3_;clear hb hbox hg;have hcz9_0:w8.cell? ⟨gb107,0,none⟩=some (.int .i64 0):=(blk_cell BK107.out 0).trans rfl;have hcz9_1:w8.cell? ⟨gb107,1,none⟩=some (.int .i64 0):=(blk_cell BK107.out 1).trans rfl;have hcz9_2:w8.cell? ⟨gb107,2,none⟩=some (.int .i64 0):=(blk_cell BK107.out 2).trans rfl;have hcz9_3:w8.cell? ⟨gb107,3,none⟩=some (.int .i64 0):=(blk_cell BK107.out 3).trans rfl;have hcz9_4:w8.cell? ⟨gb107,4,none⟩=some (.slice none 0 0):=(blk_cell BK107.out 4).trans rfl;have hfz9_0:=blk_frozen BK107.out 0;have hfz9_1:=blk_frozen BK107.out 1;have hfz9_2:=blk_frozen BK107.out 2;have hfz9_3:=blk_frozen BK107.out 3;have hfz9_4:=blk_frozen BK107.out 4)|(go_at_call 24;(with_reducible refine (hunk_Right.calls k1 ((rd_T41 l0 x9_1).f0) ((rd_T41 l0 x9_1).f1) ((rd_T41 l0 x9_1).f2) ((rd_T41 l0 x9_1).f3) _ _ ((rd_T41 l0 x9_1).f4) true _ ?side1 ?side2 A5.out).mono ?_);(case side1=>exact Kd.C_below HR106_4.out bel);(case side2=>exact HC106_4.out);rintro e w10 ⟨rfl,hb⟩;have n0_:=Aside0.mk (blk_below (g:=gb107) (o:=.cells #[.int .i64 ((rd_T41 l0 x9_1).f0),.int .i64 ((rd_T41 l0 x9_1).f1),.int .i64 ((rd_T41 l0 x9_1).f2),.int .i64 ((rd_T41 l0 x9_1).f3),.slice A106_4 ((rd_T41 l0 x9_1).f4).length c106_4] 41 (0,0)) (by (with_reducible repeat (first|refine blk_drewN ?_ _|refine blk_drew ?_|refine blk_alloc ?_ _));refine blk_put (cs:=#[.int .i64 ((rd_T41 l0 x9_1).f0),.int .i64 ((rd_T41 l0 x9_1).f1),.int .i64 ((rd_T41 l0 x9_1).f2),.int .i64 ((rd_T41 l0 x9_1).f3),.slice none 0 0]) ?_ 4 _ rfl;(with_reducible repeat (first|refine blk_drewN ?_ _|refine blk_drew ?_|refine blk_alloc ?_ _));refine blk_put (cs:=#[.int .i64 ((rd_T41 l0 x9_1).f0),.int .i64 ((rd_T41 l0 x9_1).f1),.int .i64 ((rd_T41 l0 x9_1).f2),.int .i64 0,.slice none 0 0]) ?_ 3 _ rfl;(with_reducible repeat (first|refine blk_drewN ?_ _|refine blk_drew ?_|refine blk_alloc ?_ _));refine blk_put (cs:=#[.int .i64 ((rd_T41 l0 x9_1).f0),.int .i64 ((rd_T41 l0 x9_1).f1),.int .i64 0,.int .i64 0,.slice none 0 0]) ?_ 2 _ rfl;(with_reducible repeat (first|refine blk_drewN ?_ _|refine blk_drew ?_|refine blk_alloc ?_ _));refine blk_put (cs:=#[.int .i64 ((rd_T41 l0 x9_1).f0),.int .i64 0,.int .i64 0,.int .i64 0,.slice none 0 0]) ?_ 1 _ rfl;(with_reducible repeat (first|refine blk_drewN ?_ _|refine blk_drew ?_|refine blk_alloc ?_ _));refine blk_put (cs:=#[.int .i64 0,.int .i64 0,.int .i64 0,.int .i64 0,.slice none 0 0]) ?_ 0 _ rfl;(with_reducible repeat (first|refine blk_drewN ?_ _|refine blk_drew ?_|refine blk_alloc ?_ _));exact BK107.out) hb);have n1_:=Aside0.mk (below_step bel hb);clear BK107;clear HB;have BK107:=n0_;have HB:=n1_;clear n0_ n1_;(try clear hb);(try clear hb2);(try clear hk);(try clear hi);have hcz11_0:w10.cell? ⟨gb107,0,none⟩=some (.int .i64 ((rd_T41 l0 x9_1).f0)):=(blk_cell BK107.out 0).trans rfl;have hcz11_1:w10.cell? ⟨gb107,1,none⟩=some (.int .i64 ((rd_T41 l0 x9_1).f1)):=(blk_cell BK107.out 1).trans rfl;have hcz11_2:w10.cell? ⟨gb107,2,none⟩=some (.int .i64 ((rd_T41 l0 x9_1).f2)):=(blk_cell BK107.out 2).trans rfl;have hcz11_3:w10.cell? ⟨gb107,3,none⟩=some (.int .i64 ((rd_T41 l0 x9_1).f3)):=(blk_cell BK107.out 3).trans rfl;have hcz11_4:w10.cell? ⟨gb107,4,none⟩=some (.slice A106_4 ((rd_T41 l0 x9_1).f4).length c106_4):=(blk_cell BK107.out 4).trans rfl;have hfz11_0:=blk_frozen BK107.out 0;have hfz11_1:=blk_frozen BK107.out 1;have hfz11_2:=blk_frozen BK107.out 2;have hfz11_3:=blk_frozen BK107.out 3;have hfz11_4:=blk_frozen BK107.out 4))
        go_ret
        exact ⟨by first|rfl|(simp [errW_none,errW_some]<;>rfl)|(simp [*,errW_none,errW_some]<;>rfl),bel⟩
       ·rw [if_neg c7] at H
        have c7b0:decide (((rd_T41 l0 x9_1).f0)<x3_1)=false:=decide_eq_false c7
        clear c7
        by_cases c12:((rd_T41 l0 x9_1).f2)=(wrap64 (((rd_T41 l0 x9_1).f0)+x4_1))
        ·rw [if_pos c12] at H
         have c12b0:(((rd_T41 l0 x9_1).f2) == (wrap64 (((rd_T41 l0 x9_1).f0)+x4_1)))=true:=beq_iff_eq.mpr c12
         have c12b1:(((rd_T41 l0 x9_1).f2) != (wrap64 (((rd_T41 l0 x9_1).f0)+x4_1)))=false:=bne_eq_false_iff_eq.mpr c12
         clear c12
         have H':=Aside0.mk H
         clear H
         have p106:0≤(x9_1:Int):=of_decide_eq_true asm
         have q106:x9_1<(l0.length:Int):=of_decide_eq_true asm
         obtain ⟨ad106,A106_4,c106_4,e106,hx106_0,hx106_1,hx106_2,hx106_3,hx106_4,hl106_4,hi106_4⟩:=at_T41 HR0.out x9_1 p106 q106
         cases e106
         replace hx106_0:=pw_cell_below HB.out hx106_0
         replace hx106_1:=pw_cell_below HB.out hx106_1
         replace hx106_2:=pw_cell_below HB.out hx106_2
         replace hx106_3:=pw_cell_below HB.out hx106_3
         replace hx106_4:=pw_cell_below HB.out hx106_4
         have HR106_4:=Aside0.mk hi106_4
         have HC106_4:=Aside0.mk hl106_4
         clear hi106_4 hl106_4
         replace p106:=eq_true p106
         replace q106:=eq_true q106
         go_wp2_with (first|((with_reducible refine gate_dst (N:=6) rfl ?_);refine box_event ?hg (N:=6) ?hd (cs:=#[.int .i64 0,.int .i64 0,.int .i64 0,.int .i64 0,.slice none 0 0]) (t:=41) ?hr ?_;(case hd=>rfl);(case hg=>rfl);(case hr=>first|(go_simp;done)|(go_simp;rfl));intro gb107 hg w13 hbox hb;have n0_:=Aside0.mk (below_step bel hb);have n1_:=Aside0.mk (hbox);have n2_:=Aside0.mk ((szl:w.heap.size≤gb107));have n3_:=Aside0.mk ((szl:w.heap.size≤gb107));clear HB;have HB:=n0_;have BK107:=n1_;have GW107:=n2_;have GE107:=n3_;clear n0_ n1_ n2_ n3_;clear hb hbox hg;have hcz14_0:w13.cell? ⟨gb107,0,none⟩=some (.int .i64 0):=(blk_cell BK107.out 0).trans rfl;have hcz14_1:w13.cell? ⟨gb107,1,none⟩=some (.int .i64 0):=(blk_cell BK107.out 1).trans rfl;have hcz14_2:w13.cell? ⟨gb107,2,none⟩=some (.int .i64 0):=(blk_cell BK107.out 2).trans rfl;have hcz14_3:w13.cell? ⟨gb107,3,none⟩=some (.int .i64 0):=(blk_cell BK107.out 3).trans rfl;have hcz14_4:w13.cell? ⟨gb107,4,none⟩=some (.slice none 0 0):=(blk_cell BK107.out 4).trans rfl;have hfz14_0:=blk_frozen BK107.out 0;have hfz14_1:=blk_frozen BK107.out 1;have hfz14_2:=blk_frozen BK107.out 2;have hfz14_3:=blk_frozen BK107.out 3;have hfz14_4:=blk_frozen BK107.out 4)|(go_at_call 24;(with_reducible refine (hunk_Right.calls k1 ((rd_T41 l0 x9_1).f0) ((rd_T41 l0 x9_1).f1) ((rd_T41 l0 x9_1).f2) ((rd_T41 l0 x9_1).f3) _ _ ((rd_T41 l0 x9_1).f4) true _ ?side1 ?side2 A5.out).mono ?_);(case side1=>exact Kd.C_below HR106_4.out bel);(case side2=>exact HC106_4.out);rintro e w15 ⟨rfl,hb⟩;have n0_:=Aside0.mk (blk_below (g:=gb107) (o:=.cells #[.int .i64 ((rd_T41 l0 x9_1).f0),.int .i64 ((rd_T41 l0 x9_1).f1),.int .i64 ((rd_T41 l0 x9_1).f2),.int .i64 ((rd_T41 l0 x9_1).f3),.slice A106_4 ((rd_T41 l0 x9_1).f4).length c106_4] 41 (0,0)) (by (with_reducible repeat (first|refine blk_drewN ?_ _|refine blk_drew ?_|refine blk_alloc ?_ _));refine blk_put (cs:=#[.int .i64 ((rd_T41 l0 x9_1).f0),.int .i64 ((rd_T41 l0 x9_1).f1),.int .i64 ((rd_T41 l0 x9_1).f2),.int .i64 ((rd_T41 l0 x9_1).f3),.slice none 0 0]) ?_ 4 _ rfl;(with_reducible repeat (first|refine blk_drewN ?_ _|refine blk_drew ?_|refine blk_alloc ?_ _));refine blk_put (cs:=#[.int .i64 ((rd_T41 l0 x9_1).f0),.int .i64 ((rd_T41 l0 x9_1).f1),.int .i64 ((rd_T41 l0 x9_1).f2),.int .i64 0,.slice none 0 0]) ?_ 3 _ rfl;(with_reducible repeat (first|refine blk_drewN ?_ _|refine blk_drew ?_|refine blk_alloc ?_ _));refine blk_put (cs:=#[.int .i64 ((rd_T41 l0 x9_1).f0),.int .i64 ((rd_T41 l0 x9_1).f1),.int .i64 0,.int .i64 0,.slice none 0 0]) ?_ 2 _ rfl;(with_reducible repeat (first|refine blk_drewN ?_ _|refine blk_drew ?_|refine blk_alloc ?_ _));refine blk_put (cs:=#[.int .i64 ((rd_T41 l0 x9_1).f0),.int .i64 0,.int .i64 0,.int .i64 0,.slice none 0 0]) ?_ 1 _ rfl;(with_reducible repeat (first|refine blk_drewN ?_ _|refine blk_drew ?_|refine blk_alloc ?_ _));refine blk_put (cs:=#[.int .i64 0,.int .i64 0,.int .i64 0,.int .i64 0,.slice none 0 0]) ?_ 0 _ rfl;(with_reducible repeat (first|refine blk_drewN ?_ _|refine blk_drew ?_|refine blk_alloc ?_ _));exact BK107.out) hb);have n1_:=Aside0.mk (below_step bel hb);clear BK107;clear HB;have BK107:=n0_;have HB:=n1_;clear n0_ n1_;(try clear hb);(try clear hb2);(try clear hk);(try clear hi);have hcz16_0:w15.cell? ⟨gb107,0,none⟩=some (.int .i64 ((rd_T41 l0 x9_1).f0)):=(blk_cell BK107.out 0).trans rfl;have hcz16_1:w15.cell? ⟨gb107,1,none⟩=some (.int .i64 ((rd_T41 l0 x9_1).f1)):=(blk_cell BK107.out 1).trans rfl;have hcz16_2:w15.cell? ⟨gb107,2,none⟩=some (.int .i64 ((rd_T41 l0 x9_1).f2)):=(blk_cell BK107.out 2).trans rfl;have hcz16_3:w15.cell? ⟨gb107,3,none⟩=some (.int .i64 ((rd_T41 l0 x9_1).f3)):=(blk_cell BK107.out 3).trans rfl;have hcz16_4:w15.cell? ⟨gb107,4,none⟩=some (.slice A106_4 ((rd_T41 l0 x9_1).f4).length c106_4):=(blk_cell BK107.out 4).trans rfl;have hfz16_0:=blk_frozen BK107.out 0;have hfz16_1:=blk_frozen BK107.out 1;have hfz16_2:=blk_frozen BK107.out 2;have hfz16_3:=blk_frozen BK107.out 3;have hfz16_4:=blk_frozen BK107.out 4))
         repeat (go_quiet (fail);try go_wp2_with (fail))
         go_roundg k1
         case measure=>have:=HK1.out;omega
         case rel=>exact ⟨(wrap64 (((rd_T41 l0 x9_1).f0)+((rd_T41 l0 x9_1).f1))),(wrap64 ((wrap64 (x4_1+((rd_T41 l0 x9_1).f3))) - ((rd_T41 l0 x9_1).f1))),(wrap64 (x9_1+1)),rx,rx,rx,H',⟨by have:=HK1.out;omega⟩,⟨by repeat (first|(with_reducible first|exact HB.out|apply below_alloc|apply pw_below_drewN|apply below_drew1|refine below_set ?_ GE107.out)|exact HB.out)⟩⟩
        ·rw [if_neg c12] at H
         have c12b0:(((rd_T41 l0 x9_1).f2) == (wrap64 (((rd_T41 l0 x9_1).f0)+x4_1)))=false:=beq_eq_false_iff_ne.mpr c12
         have c12b1:(((rd_T41 l0 x9_1).f2) != (wrap64 (((rd_T41 l0 x9_1).f0)+x4_1)))=true:=bne_iff_ne.mpr c12
         obtain rfl:=Option.some.inj H
         have p106:0≤(x9_1:Int):=of_decide_eq_true asm
         have q106:x9_1<(l0.length:Int):=of_decide_eq_true asm
         obtain ⟨ad106,A106_4,c106_4,e106,hx106_0,hx106_1,hx106_2,hx106_3,hx106_4,hl106_4,hi106_4⟩:=at_T41 HR0.out x9_1 p106 q106
         cases e106
         replace hx106_0:=pw_cell_below HB.out hx106_0
         replace hx106_1:=pw_cell_below HB.out hx106_1
         replace hx106_2:=pw_cell_below HB.out hx106_2
         replace hx106_3:=pw_cell_below HB.out hx106_3
         replace hx106_4:=pw_cell_below HB.out hx106_4
         have HR106_4:=Aside0.mk hi106_4
         have HC106_4:=Aside0.mk hl106_4
         clear hi106_4 hl106_4
         replace p106:=eq_true p106
         replace q106:=eq_true q106
         go_wp2_with (first|((with_reducible refine gate_dst (N:=6) rfl ?_);refine box_event ?hg (N:=6) ?hd (cs:=#[.int .i64 0,.int .i64 0,.int .i64 0,.int .i64 0,.slice none 0 0]) (t:=41) ?hr ?_;(case hd=>rfl);(case hg=>rfl);(case hr=>first|(go_simp;done)|(go_simp;rfl));intro gb107 hg w17 hbox hb;have n0_:=Aside0.mk (below_step bel hb);have n1_:=Aside0.mk (hbox);have n2_:=Aside0.mk ((szl:w.heap.size≤gb107));have n3_:=Aside0.mk ((szl:w.heap.size≤gb107));clear HB;have HB:=n0_;have BK107:=n1_;have GW107:=n2_;have GE107:=n3_;clear n0_ n1_ n2_ n3_;clear hb hbox hg;have hcz18_0:w17.cell? ⟨gb107,0,none⟩=some (.int .i64 0):=(blk_cell BK107.out 0).trans rfl;have hcz18_1:w17.cell? ⟨gb107,1,none⟩=some (.int .i64 0):=(blk_cell BK107.out 1).trans rfl;have hcz18_2:w17.cell? ⟨gb107,2,none⟩=some (.int .i64 0):=(blk_cell BK107.out 2).trans rfl;have hcz18_3:w17.cell? ⟨gb107,3,none⟩=some (.int .i64 0):=(blk_cell BK107.out 3).trans rfl;have hcz18_4:w17.cell? ⟨gb107,4,none⟩=some (.slice none 0 0):=(blk_cell BK107.out 4).trans rfl;have hfz18_0:=blk_frozen BK107.out 0;have hfz18_1:=blk_frozen BK107.out 1;have hfz18_2:=blk_frozen BK107.out 2;have hfz18_3:=blk_frozen BK107.out 3;have hfz18_4:=blk_frozen BK107.out 4)|(go_at_call 24;(with_reducible refine (hunk_Right.calls k1 ((rd_T41 l0 x9_1).f0) ((rd_T41 l0 x9_1).f1) ((rd_T41 l0 x9_1).f2) ((rd_T41 l0 x9_1).f3) _ _ ((rd_T41 l0 x9_1).f4) true _ ?side1 ?side2 A5.out).mono ?_);(case side1=>exact Kd.C_below HR106_4.out bel);(case side2=>exact HC106_4.out);rintro e w19 ⟨rfl,hb⟩;have n0_:=Aside0.mk (blk_below (g:=gb107) (o:=.cells #[.int .i64 ((rd_T41 l0 x9_1).f0),.int .i64 ((rd_T41 l0 x9_1).f1),.int .i64 ((rd_T41 l0 x9_1).f2),.int .i64 ((rd_T41 l0 x9_1).f3),.slice A106_4 ((rd_T41 l0 x9_1).f4).length c106_4] 41 (0,0)) (by (with_reducible repeat (first|refine blk_drewN ?_ _|refine blk_drew ?_|refine blk_alloc ?_ _));refine blk_put (cs:=#[.int .i64 ((rd_T41 l0 x9_1).f0),.int .i64 ((rd_T41 l0 x9_1).f1),.int .i64 ((rd_T41 l0 x9_1).f2),.int .i64 ((rd_T41 l0 x9_1).f3),.slice none 0 0]) ?_ 4 _ rfl;(with_reducible repeat (first|refine blk_drewN ?_ _|refine blk_drew ?_|refine blk_alloc ?_ _));refine blk_put (cs:=#[.int .i64 ((rd_T41 l0 x9_1).f0),.int .i64 ((rd_T41 l0 x9_1).f1),.int .i64 ((rd_T41 l0 x9_1).f2),.int .i64 0,.slice none 0 0]) ?_ 3 _ rfl;(with_reducible repeat (first|refine blk_drewN ?_ _|refine blk_drew ?_|refine blk_alloc ?_ _));refine blk_put (cs:=#[.int .i64 ((rd_T41 l0 x9_1).f0),.int .i64 ((rd_T41 l0 x9_1).f1),.int .i64 0,.int .i64 0,.slice none 0 0]) ?_ 2 _ rfl;(with_reducible repeat (first|refine blk_drewN ?_ _|refine blk_drew ?_|refine blk_alloc ?_ _));refine blk_put (cs:=#[.int .i64 ((rd_T41 l0 x9_1).f0),.int .i64 0,.int .i64 0,.int .i64 0,.slice none 0 0]) ?_ 1 _ rfl;(with_reducible repeat (first|refine blk_drewN ?_ _|refine blk_drew ?_|refine blk_alloc ?_ _));refine blk_put (cs:=#[.int .i64 0,.int .i64 0,.int .i64 0,.int .i64 0,.slice none 0 0]) ?_ 0 _ rfl;(with_reducible repeat (first|refine blk_drewN ?_ _|refine blk_drew ?_|refine blk_alloc ?_ _));exact BK107.out) hb);have n1_:=Aside0.mk (below_step bel hb);clear BK107;clear HB;have BK107:=n0_;have HB:=n1_;clear n0_ n1_;(try clear hb);(try clear hb2);(try clear hk);(try clear hi);have hcz20_0:w19.cell? ⟨gb107,0,none⟩=some (.int .i64 ((rd_T41 l0 x9_1).f0)):=(blk_cell BK107.out 0).trans rfl;have hcz20_1:w19.cell? ⟨gb107,1,none⟩=some (.int .i64 ((rd_T41 l0 x9_1).f1)):=(blk_cell BK107.out 1).trans rfl;have hcz20_2:w19.cell? ⟨gb107,2,none⟩=some (.int .i64 ((rd_T41 l0 x9_1).f2)):=(blk_cell BK107.out 2).trans rfl;have hcz20_3:w19.cell? ⟨gb107,3,none⟩=some (.int .i64 ((rd_T41 l0 x9_1).f3)):=(blk_cell BK107.out 3).trans rfl;have hcz20_4:w19.cell? ⟨gb107,4,none⟩=some (.slice A106_4 ((rd_T41 l0 x9_1).f4).length c106_4):=(blk_cell BK107.out 4).trans rfl;have hfz20_0:=blk_frozen BK107.out 0;have hfz20_1:=blk_frozen BK107.out 1;have hfz20_2:=blk_frozen BK107.out 2;have hfz20_3:=blk_frozen BK107.out 3;have hfz20_4:=blk_frozen BK107.out 4))
         go_ret
         exact ⟨by first|rfl|(simp [errW_none,errW_some]<;>rfl)|(simp [*,errW_none,errW_some]<;>rfl),bel⟩
      ·replace c6:=Bool.eq_false_iff.mpr c6
       subst c6
       have H1:(some false)=some r:=by rw [if_neg (show ¬ (false=true) by decide)] at H;exact H
       clear H
       have H:=H1
       clear H1
       obtain rfl:=Option.some.inj H
       have p106:0≤(x9_1:Int):=of_decide_eq_true asm
       have q106:x9_1<(l0.length:Int):=of_decide_eq_true asm
       obtain ⟨ad106,A106_4,c106_4,e106,hx106_0,hx106_1,hx106_2,hx106_3,hx106_4,hl106_4,hi106_4⟩:=at_T41 HR0.out x9_1 p106 q106
       cases e106
       replace hx106_0:=pw_cell_below HB.out hx106_0
       replace hx106_1:=pw_cell_below HB.out hx106_1
       replace hx106_2:=pw_cell_below HB.out hx106_2
       replace hx106_3:=pw_cell_below HB.out hx106_3
       replace hx106_4:=pw_cell_below HB.out hx106_4
       have HR106_4:=Aside0.mk hi106_4
       have HC106_4:=Aside0.mk hl106_4
       clear hi106_4 hl106_4
       replace p106:=eq_true p106
       replace q106:=eq_true q106
       go_wp2_with (first|((with_reducible refine gate_dst (N:=6) rfl ?_);refine box_event ?hg (N:=6) ?hd (cs:=#[.int .i64 0,.int .i64 0,.int .i64 0,.int .i64 0,.slice none 0 0]) (t:=41) ?hr ?_;(case hd=>rfl);(case hg=>rfl);(case hr=>first|(go_simp;done)|(go_simp;rfl));intro gb107 hg w21 hbox hb;have n0_:=Aside0.mk (below_step bel hb);have n1_:=Aside0.mk (hbox);have n2_:=Aside0.mk ((szl:w.heap.size≤gb107));have n3_:=Aside0.mk ((szl:w.heap.size≤gb107));clear HB;have HB:=n0_;have BK107:=n1_;have GW107:=n2_;have GE107:=n3_;clear n0_ n1_ n2_ n3_;clear hb hbox hg;have hcz22_0:w21.cell? ⟨gb107,0,none⟩=some (.int .i64 0):=(blk_cell BK107.out 0).trans rfl;have hcz22_1:w21.cell? ⟨gb107,1,none⟩=some (.int .i64 0):=(blk_cell BK107.out 1).trans rfl;have hcz22_2:w21.cell? ⟨gb107,2,none⟩=some (.int .i64 0):=(blk_cell BK107.out 2).trans rfl;have hcz22_3:w21.cell? ⟨gb107,3,none⟩=some (.int .i64 0):=(blk_cell BK107.out 3).trans rfl;have hcz22_4:w21.cell? ⟨gb107,4,none⟩=some (.slice none 0 0):=(blk_cell BK107.out 4).trans rfl;have hfz22_0:=blk_frozen BK107.out 0;have hfz22_1:=blk_frozen BK107.out 1;have hfz22_2:=blk_frozen BK107.out 2;have hfz22_3:=blk_frozen BK107.out 3;have hfz22_4:=blk_frozen BK107.out 4)|(go_at_call 24;(with_reducible refine (hunk_Right.calls k1 ((rd_T41 l0 x9_1).f0) ((rd_T41 l0 x9_1).f1) ((rd_T41 l0 x9_1).f2) ((rd_T41 l0 x9_1).f3) _ _ ((rd_T41 l0 x9_1).f4) false _ ?side1 ?side2 A5.out).mono ?_);(case side1=>exact Kd.C_below HR106_4.out bel);(case side2=>exact HC106_4.out);rintro e w23 ⟨rfl,hb⟩;have n0_:=Aside0.mk (blk_below (g:=gb107) (o:=.cells #[.int .i64 ((rd_T41 l0 x9_1).f0),.int .i64 ((rd_T41 l0 x9_1).f1),.int .i64 ((rd_T41 l0 x9_1).f2),.int .i64 ((rd_T41 l0 x9_1).f3),.slice A106_4 ((rd_T41 l0 x9_1).f4).length c106_4] 41 (0,0)) (by (with_reducible repeat (first|refine blk_drewN ?_ _|refine blk_drew ?_|refine blk_alloc ?_ _));refine blk_put (cs:=#[.int .i64 ((rd_T41 l0 x9_1).f0),.int .i64 ((rd_T41 l0 x9_1).f1),.int .i64 ((rd_T41 l0 x9_1).f2),.int .i64 ((rd_T41 l0 x9_1).f3),.slice none 0 0]) ?_ 4 _ rfl;(with_reducible repeat (first|refine blk_drewN ?_ _|refine blk_drew ?_|refine blk_alloc ?_ _));refine blk_put (cs:=#[.int .i64 ((rd_T41 l0 x9_1).f0),.int .i64 ((rd_T41 l0 x9_1).f1),.int .i64 ((rd_T41 l0 x9_1).f2),.int .i64 0,.slice none 0 0]) ?_ 3 _ rfl;(with_reducible repeat (first|refine blk_drewN ?_ _|refine blk_drew ?_|refine blk_alloc ?_ _));refine blk_put (cs:=#[.int .i64 ((rd_T41 l0 x9_1).f0),.int .i64 ((rd_T41 l0 x9_1).f1),.int .i64 0,.int .i64 0,.slice none 0 0]) ?_ 2 _ rfl;(with_reducible repeat (first|refine blk_drewN ?_ _|refine blk_drew ?_|refine blk_alloc ?_ _));refine blk_put (cs:=#[.int .i64 ((rd_T41 l0 x9_1).f0),.int .i64 0,.int .i64 0,.int .i64 0,.slice none 0 0]) ?_ 1 _ rfl;(with_reducible repeat (first|refine blk_drewN ?_ _|refine blk_drew ?_|refine blk_alloc ?_ _));refine blk_put (cs:=#[.int .i64 0,.int .i64 0,.int .i64 0,.int .i64 0,.slice none 0 0]) ?_ 0 _ rfl;(with_reducible repeat (first|refine blk_drewN ?_ _|refine blk_drew ?_|refine blk_alloc ?_ _));exact BK107.out) hb);have n1_:=Aside0.mk (below_step bel hb);clear BK107;clear HB;have BK107:=n0_;have HB:=n1_;clear n0_ n1_;(try clear hb);(try clear hb2);(try clear hk);(try clear hi)))
       go_ret
       exact ⟨by first|rfl|(simp [errW_none,errW_some]<;>rfl)|(simp [*,errW_none,errW_some]<;>rfl),bel⟩
     ·rw [if_neg c4] at H
      exact absurd H (by simp)
    ·rw [if_neg c3] at H
     exact absurd H (by simp)
   ·rw [if_neg c2] at H
    have c2b0:decide (x9_1<(l0.length:Int))=false:=decide_eq_false c2
    clear c2
    obtain rfl:=Option.some.inj H
    go_wp2
    go_ret
    exact ⟨by first|rfl|(simp [errW_none,errW_some]<;>rfl)|(simp [*,errW_none,errW_some]<;>rfl),bel⟩






end Go.Proofs.Ytoaijganmfijmaa.Pr
-- shrunk
/-
Whether hunks are right, as package apply tells, in plain Lean.
-/
namespace Go.Proofs.Ytoaijganmfijmaa.Pr
open Go.RowKit Go.Proofs.YtoaijganmfijmaaW.PrintWords Go.Proofs.YtoaijganmfijmaaW.PrintLast Go.Proofs.YtoaijganmfijmaaW.PrintMore
theorem ARight_l0 (l:List Hk) (hn:l.length≤1024) (hs:∀ h ∈ l,h.f4.length≤65536 ∧ -1099511627776≤h.f0∧h.f0≤1099511627776 ∧ -1099511627776≤h.f2∧h.f2≤1099511627776) :
  ∀ (d i:Nat) (en more:Int),l.length - i=d→i≤l.length → -(65536 * (i:Int))≤more→more≤65536 * (i:Int)→Ev (fun k=>apply_Right.l0 k en more l (l.length:Int) (i:Int)) (rightP en more (l.drop i)):=by
 intro d
 induction d with
 | zero =>
  intro i en more hd hi h1 h2
  refine Ev.step (fun _=>apply_Right.l0.eq_2 ..) ?_
  simp only [if_neg (show ¬ (i:Int)<(l.length:Int) by omega)]
  rw [List.drop_of_length_le (by omega)]
  exact Ev.now _
 | succ d ih =>
  intro i en more hd hi h1 h2
  have hlt:i<l.length:=by omega
  have hm:=hs l[i] (List.getElem_mem hlt)
  refine Ev.step (fun _=>apply_Right.l0.eq_2 ..) ?_
  simp only [if_pos (show (i:Int)<(l.length:Int) by omega),if_pos (show (0:Int)≤(i:Int) by omega),rdH_at hlt]
  rw [List.drop_eq_getElem_cons hlt,rightP]
  generalize l[i]=h at hm ⊢
  have hr:=HRight_ev h.f0 h.f1 h.f2 h.f3 h.f4 (by omega)
  rw [right_same] at hr
  refine Ev.bind hr ?_
  cases hrl:rightL h.f0 h.f1 h.f2 h.f3 h.f4 with
  | false =>
   simp only [Bool.false_and,Bool.false_eq_true,if_false]
   exact Ev.now _
  | true =>
   have hz:=rightL_size hrl
   have hm45:=manyL_le 45 h.f4
   have hm43:=manyL_le 43 h.f4
   simp only [Bool.true_and,if_true]
   by_cases c1:h.f0<en
   ·rw [decide_eq_false (by omega)]
    simp only [if_pos c1,Bool.false_and]
    exact Ev.now _
   rw [decide_eq_true (show en≤h.f0 by omega)]
   simp only [if_neg c1,Bool.true_and]
   rw [show wrap64 (h.f0+more)=h.f0+more by unfold wrap64;omega,show wrap64 (h.f0+h.f1)=h.f0+h.f1 by unfold wrap64;omega,show wrap64 (wrap64 (more+h.f3) - h.f1)=more+h.f3 - h.f1 by unfold wrap64;omega,show wrap64 ((i:Int)+1)=((i+1:Nat):Int) by unfold wrap64;omega]
   by_cases c2:h.f2=h.f0+more
   ·rw [decide_eq_true c2]
    simp only [if_pos c2,Bool.true_and]
    exact ih (i+1) _ _ (by omega) (by omega) (by push_cast;omega) (by push_cast;omega)
   rw [decide_eq_false c2]
   simp only [if_neg c2,Bool.false_and]
   exact Ev.now _
theorem ARight_ev {a:List ByteArray} {l:List Hk} (h:SmallA a l):Ev (fun k=>apply_Right.f k l) (rightP 0 0 l):=by
 have h1:=ARight_l0 l h.2.1 h.2.2 _ 0 0 0 rfl (by omega) (by simp) (by simp)
 exact h1
end Go.Proofs.Ytoaijganmfijmaa.Pr
-- shrunk
-- written by a program of this session's (a turned copy of the kit's printer); Lean checks it
namespace Go.Proofs.Ytoaijganmfijmaa.Pr
open Go.RowKit Go.Proofs.YtoaijganmfijmaaW.PrintWords Go.Proofs.YtoaijganmfijmaaW.PrintLast Go.Proofs.YtoaijganmfijmaaW.PrintMore
attribute [local go_sem] max2_int min2_int max_two min_two max_three min_three max_four min_four   -- for this text's walks alone

def r05_Few.l0:Nat→List (S41)→Int→Option (Bool)
 | 0,_,_=>none
 | k+1,x0,x3=>if x3<(x0.length:Int) then (if 0≤x3 then (if (((rd_T41 x0 x3).f4).length:Int) > 30 then (some false) else (if ((rd_T41 x0 x3).f0) > 1048576 then (some false) else (if ((rd_T41 x0 x3).f2) > 1048576 then (some false) else (if ((rd_T41 x0 x3).f1) > 1048576 then (some false) else (if ((rd_T41 x0 x3).f3) > 1048576 then (some false) else (if ((rd_T41 x0 x3).f0)<(-1048576) then (some false) else (if ((rd_T41 x0 x3).f2)<(-1048576) then (some false) else (if ((rd_T41 x0 x3).f1)<(-1048576) then (some false) else (if ((rd_T41 x0 x3).f3)<(-1048576) then (some false) else (r05_Few.l0 k x0 (wrap64 (x3+1)))))))))))) else (none)) else (some (decide ((x0.length:Int)≤12)))
def r05_Few.f (k:Nat) (l0:List (S41)):Option (Bool):=r05_Few.l0 k l0 0
theorem r05_Few.mono_l:∀ k,(∀ y0 y1,LeO (r05_Few.l0 k y0 y1) (r05_Few.l0 (k+1) y0 y1))
 | 0=>fun _ _ r h=>by simp [r05_Few.l0] at h
 | k+1=>by
  have ih0:=r05_Few.mono_l k
  ·intro y0 y1
   unfold r05_Few.l0
   repeat' first
   | (with_reducible exact ih0 _ _)
   | (with_reducible exact LeO.refl _)
   | (with_reducible exact LeO.none _)
   | (with_reducible refine LeO.ite ?_ ?_)
   | (with_reducible refine LeO.bind ?_ (fun _=>?_))
   | exact ih0 _ _
   | exact LeO.none _
   | refine LeO.ite ?_ ?_
   | refine LeO.bind ?_ (fun _=>?_)
theorem r05_Few.mono:∀ a0 k,LeO (r05_Few.f k a0) (r05_Few.f (k+1) a0):=by
 intro a0 k
 have ih0:=r05_Few.mono_l k
 unfold r05_Few.f
 repeat' first
   | (with_reducible exact ih0 _ _)
   | (with_reducible exact LeO.refl _)
   | (with_reducible exact LeO.none _)
   | (with_reducible refine LeO.ite ?_ ?_)
   | (with_reducible refine LeO.bind ?_ (fun _=>?_))
   | exact ih0 _ _
   | exact LeO.none _
   | refine LeO.ite ?_ ?_
   | refine LeO.bind ?_ (fun _=>?_)
set_option maxHeartbeats 8000000 in
set_option maxRecDepth 100000 in
theorem r05_Few.calls (k:Nat) (A0:Option Addr) (c0:Nat) (l0:List (S41)) (r:Bool) (w:World) (hr0:Kd.C k41 w A0 l0.length l0) (hc0:l0.length≤c0) (h:r05_Few.f k l0=some r) :
  Calls Try.prog 11 #[.slice A0 l0.length c0] w fun e w'=>e=.returned (.bool r)∧Below w.heap.size w w':=by
 have hu41:=Try.underlying41
 have HR0:=Aside0.mk hr0
 have HC0:=Aside0.mk hc0
 clear hr0 hc0
 have HB:=Aside0.mk (Below.refl w.heap.size w)
 have H:(r05_Few.l0 k l0 0)=some r:=h
 clear h
 have H':=Aside0.mk H
 clear H
 go_enter Try.func11,Try.ntmps11
 go_wp2
 go_loopg [3] k (fun kq v3 w'=>∃ (x3_1:Int),v3=.int .i64 x3_1∧Aside0 (r05_Few.l0 kq l0 x3_1=some r)∧Aside0 (kq≤k)∧Aside0 (Below w.heap.size w w'))
 case atStart=>exact ⟨(0),rx,H',⟨Nat.le_refl _⟩,⟨by repeat (first|(with_reducible first|exact HB.out|apply below_alloc|apply pw_below_drewN|apply below_drew1)|exact HB.out)⟩⟩
 case round =>
  clear H'
  try clear c1
  obtain ⟨x3_1,rfl,HA,HK1,HB⟩:=hrel
  cases gk with
  | zero=>exact absurd HA.out (by simp [r05_Few.l0])
  | succ k1 =>
   have H:=HA.out
   clear HA
   simp only [r05_Few.l0] at H
   by_cases c2:x3_1<(l0.length:Int)
   ·rw [if_pos c2] at H
    have c2b0:decide (x3_1<(l0.length:Int))=true:=decide_eq_true c2
    clear c2
    by_cases c3:0≤x3_1
    ·rw [if_pos c3] at H
     have c3b0:decide (0≤x3_1)=true:=decide_eq_true c3
     clear c3
     by_cases c4:(((rd_T41 l0 x3_1).f4).length:Int) > 30
     ·rw [if_pos c4] at H
      have c4b0:decide (30<(((rd_T41 l0 x3_1).f4).length:Int))=true:=decide_eq_true c4
      have c4b1:decide (30<((rd_T41 l0 x3_1).f4).length)=true:=decide_eq_true (by omega)
      clear c4
      obtain rfl:=Option.some.inj H
      have p285:0≤(x3_1:Int):=of_decide_eq_true asm
      have q285:x3_1<(l0.length:Int):=of_decide_eq_true asm
      obtain ⟨ad285,A285_4,c285_4,e285,hx285_0,hx285_1,hx285_2,hx285_3,hx285_4,hl285_4,hi285_4⟩:=at_T41 HR0.out x3_1 p285 q285
      cases e285
      replace hx285_0:=pw_cell_below HB.out hx285_0
      replace hx285_1:=pw_cell_below HB.out hx285_1
      replace hx285_2:=pw_cell_below HB.out hx285_2
      replace hx285_3:=pw_cell_below HB.out hx285_3
      replace hx285_4:=pw_cell_below HB.out hx285_4
      have HR285_4:=Aside0.mk hi285_4
      have HC285_4:=Aside0.mk hl285_4
      clear hi285_4 hl285_4
      replace p285:=eq_true p285
      replace q285:=eq_true q285
      go_wp2_with (((with_reducible refine gate_dst (N:=4) rfl ?_);refine box_event ?hg (N:=4) ?hd (cs:=#[.int .i64 0,.int .i64 0,.int .i64 0,.int .i64 0,.slice none 0 0]) (t:=41) ?hr ?_;(case hd=>rfl);(case hg=>rfl);(case hr=>first|(go_simp;done)|(go_simp;rfl));intro gb286 hg w5 hbox hb;have n0_:=Aside0.mk (below_step bel hb);have n1_:=Aside0.mk (hbox);have n2_:=Aside0.mk ((szl:w.heap.size≤gb286));have n3_:=Aside0.mk ((szl:w.heap.size≤gb286));clear HB;have HB:=n0_;have BK286:=n1_;have GW286:=n2_;have GE286:=n3_;clear n0_ n1_ n2_ n3_;clear hb hbox hg;have hcz6_0:w5.cell? ⟨gb286,0,none⟩=some (.int .i64 0):=(blk_cell BK286.out 0).trans rfl;have hcz6_1:w5.cell? ⟨gb286,1,none⟩=some (.int .i64 0):=(blk_cell BK286.out 1).trans rfl;have hcz6_2:w5.cell? ⟨gb286,2,none⟩=some (.int .i64 0):=(blk_cell BK286.out 2).trans rfl;have hcz6_3:w5.cell? ⟨gb286,3,none⟩=some (.int .i64 0):=(blk_cell BK286.out 3).trans rfl;have hcz6_4:w5.cell? ⟨gb286,4,none⟩=some (.slice none 0 0):=(blk_cell BK286.out 4).trans rfl;have hfz6_0:=blk_frozen BK286.out 0;have hfz6_1:=blk_frozen BK286.out 1;have hfz6_2:=blk_frozen BK286.out 2;have hfz6_3:=blk_frozen BK286.out 3;have hfz6_4:=blk_frozen BK286.out 4))
      go_ret
      exact ⟨by first|rfl|(simp [errW_none,errW_some]<;>rfl)|(simp [*,errW_none,errW_some]<;>rfl),bel⟩
     ·rw [if_neg c4] at H
      have c4b0:decide (30<(((rd_T41 l0 x3_1).f4).length:Int))=false:=decide_eq_false c4
      have c4b1:decide (30<((rd_T41 l0 x3_1).f4).length)=false:=decide_eq_false (by omega)
      clear c4
      by_cases c7:((rd_T41 l0 x3_1).f0) > 1048576
      ·rw [if_pos c7] at H
       have c7b0:decide (1048576<((rd_T41 l0 x3_1).f0))=true:=decide_eq_true c7
       clear c7
       obtain rfl:=Option.some.inj H
       have p285:0≤(x3_1:Int):=of_decide_eq_true asm
       have q285:x3_1<(l0.length:Int):=of_decide_eq_true asm
       obtain ⟨ad285,A285_4,c285_4,e285,hx285_0,hx285_1,hx285_2,hx285_3,hx285_4,hl285_4,hi285_4⟩:=at_T41 HR0.out x3_1 p285 q285
       cases e285
       replace hx285_0:=pw_cell_below HB.out hx285_0
       replace hx285_1:=pw_cell_below HB.out hx285_1
       replace hx285_2:=pw_cell_below HB.out hx285_2
       replace hx285_3:=pw_cell_below HB.out hx285_3
       replace hx285_4:=pw_cell_below HB.out hx285_4
       have HR285_4:=Aside0.mk hi285_4
       have HC285_4:=Aside0.mk hl285_4
       clear hi285_4 hl285_4
       replace p285:=eq_true p285
       replace q285:=eq_true q285
       go_wp2_with (((with_reducible refine gate_dst (N:=4) rfl ?_);refine box_event ?hg (N:=4) ?hd (cs:=#[.int .i64 0,.int .i64 0,.int .i64 0,.int .i64 0,.slice none 0 0]) (t:=41) ?hr ?_;(case hd=>rfl);(case hg=>rfl);(case hr=>first|(go_simp;done)|(go_simp;rfl));intro gb286 hg w8 hbox hb;have n0_:=Aside0.mk (below_step bel hb);have n1_:=Aside0.mk (hbox);have n2_:=Aside0.mk ((szl:w.heap.size≤gb286));have n3_:=Aside0.mk ((szl:w.heap.size≤gb286));clear HB;have HB:=n0_;have BK286:=n1_;have GW286:=n2_;have GE286:=n3_;clear n0_ n1_ n2_ n3_;clear hb hbox hg;have hcz9_0:w8.cell? ⟨gb286,0,none⟩=some (.int .i64 0):=(blk_cell BK286.out 0).trans rfl;have hcz9_1:w8.cell? ⟨gb286,1,none⟩=some (.int .i64 0):=(blk_cell BK286.out 1).trans rfl;have hcz9_2:w8.cell? ⟨gb286,2,none⟩=some (.int .i64 0):=(blk_cell BK286.out 2).trans rfl;have hcz9_3:w8.cell? ⟨gb286,3,none⟩=some (.int .i64 0):=(blk_cell BK286.out 3).trans rfl;have hcz9_4:w8.cell? ⟨gb286,4,none⟩=some (.slice none 0 0):=(blk_cell BK286.out 4).trans rfl;have hfz9_0:=blk_frozen BK286.out 0;have hfz9_1:=blk_frozen BK286.out 1;have hfz9_2:=blk_frozen BK286.out 2;have hfz9_3:=blk_frozen BK286.out 3;have hfz9_4:=blk_frozen BK286.out 4))
       go_ret
       exact ⟨by first|rfl|(simp [errW_none,errW_some]<;>rfl)|(simp [*,errW_none,errW_some]<;>rfl),bel⟩
      ·rw [if_neg c7] at H
       have c7b0:decide (1048576<((rd_T41 l0 x3_1).f0))=false:=decide_eq_false c7
       clear c7
       by_cases c10:((rd_T41 l0 x3_1).f2) > 1048576
       ·rw [if_pos c10] at H
        have c10b0:decide (1048576<((rd_T41 l0 x3_1).f2))=true:=decide_eq_true c10
        clear c10
        obtain rfl:=Option.some.inj H
        have p285:0≤(x3_1:Int):=of_decide_eq_true asm
        have q285:x3_1<(l0.length:Int):=of_decide_eq_true asm
        obtain ⟨ad285,A285_4,c285_4,e285,hx285_0,hx285_1,hx285_2,hx285_3,hx285_4,hl285_4,hi285_4⟩:=at_T41 HR0.out x3_1 p285 q285
        cases e285
        replace hx285_0:=pw_cell_below HB.out hx285_0
        replace hx285_1:=pw_cell_below HB.out hx285_1
        replace hx285_2:=pw_cell_below HB.out hx285_2
        replace hx285_3:=pw_cell_below HB.out hx285_3
        replace hx285_4:=pw_cell_below HB.out hx285_4
        have HR285_4:=Aside0.mk hi285_4
        have HC285_4:=Aside0.mk hl285_4
        clear hi285_4 hl285_4
        replace p285:=eq_true p285
        replace q285:=eq_true q285
        go_wp2_with (((with_reducible refine gate_dst (N:=4) rfl ?_);refine box_event ?hg (N:=4) ?hd (cs:=#[.int .i64 0,.int .i64 0,.int .i64 0,.int .i64 0,.slice none 0 0]) (t:=41) ?hr ?_;(case hd=>rfl);(case hg=>rfl);(case hr=>first|(go_simp;done)|(go_simp;rfl));intro gb286 hg w11 hbox hb;have n0_:=Aside0.mk (below_step bel hb);have n1_:=Aside0.mk (hbox);have n2_:=Aside0.mk ((szl:w.heap.size≤gb286));have n3_:=Aside0.mk ((szl:w.heap.size≤gb286));clear HB;have HB:=n0_;have BK286:=n1_;have GW286:=n2_;have GE286:=n3_;clear n0_ n1_ n2_ n3_;clear hb hbox hg;have hcz12_0:w11.cell? ⟨gb286,0,none⟩=some (.int .i64 0):=(blk_cell BK286.out 0).trans rfl;have hcz12_1:w11.cell? ⟨gb286,1,none⟩=some (.int .i64 0):=(blk_cell BK286.out 1).trans rfl;have hcz12_2:w11.cell? ⟨gb286,2,none⟩=some (.int .i64 0):=(blk_cell BK286.out 2).trans rfl;have hcz12_3:w11.cell? ⟨gb286,3,none⟩=some (.int .i64 0):=(blk_cell BK286.out 3).trans rfl;have hcz12_4:w11.cell? ⟨gb286,4,none⟩=some (.slice none 0 0):=(blk_cell BK286.out 4).trans rfl;have hfz12_0:=blk_frozen BK286.out 0;have hfz12_1:=blk_frozen BK286.out 1;have hfz12_2:=blk_frozen BK286.out 2;have hfz12_3:=blk_frozen BK286.out 3;have hfz12_4:=blk_frozen BK286.out 4))
        go_ret
        exact ⟨by first|rfl|(simp [errW_none,errW_some]<;>rfl)|(simp [*,errW_none,errW_some]<;>rfl),bel⟩
       ·rw [if_neg c10] at H
        have c10b0:decide (1048576<((rd_T41 l0 x3_1).f2))=false:=decide_eq_false c10
        clear c10
        by_cases c13:((rd_T41 l0 x3_1).f1) > 1048576
        ·rw [if_pos c13] at H
         have c13b0:decide (1048576<((rd_T41 l0 x3_1).f1))=true:=decide_eq_true c13
         clear c13
         obtain rfl:=Option.some.inj H
         have p285:0≤(x3_1:Int):=of_decide_eq_true asm
         have q285:x3_1<(l0.length:Int):=of_decide_eq_true asm
         obtain ⟨ad285,A285_4,c285_4,e285,hx285_0,hx285_1,hx285_2,hx285_3,hx285_4,hl285_4,hi285_4⟩:=at_T41 HR0.out x3_1 p285 q285
         cases e285
         replace hx285_0:=pw_cell_below HB.out hx285_0
         replace hx285_1:=pw_cell_below HB.out hx285_1
         replace hx285_2:=pw_cell_below HB.out hx285_2
         replace hx285_3:=pw_cell_below HB.out hx285_3
         replace hx285_4:=pw_cell_below HB.out hx285_4
         have HR285_4:=Aside0.mk hi285_4
         have HC285_4:=Aside0.mk hl285_4
         clear hi285_4 hl285_4
         replace p285:=eq_true p285
         replace q285:=eq_true q285
         go_wp2_with (((with_reducible refine gate_dst (N:=4) rfl ?_);refine box_event ?hg (N:=4) ?hd (cs:=#[.int .i64 0,.int .i64 0,.int .i64 0,.int .i64 0,.slice none 0 0]) (t:=41) ?hr ?_;(case hd=>rfl);(case hg=>rfl);(case hr=>first|(go_simp;done)|(go_simp;rfl));intro gb286 hg w14 hbox hb;have n0_:=Aside0.mk (below_step bel hb);have n1_:=Aside0.mk (hbox);have n2_:=Aside0.mk ((szl:w.heap.size≤gb286));have n3_:=Aside0.mk ((szl:w.heap.size≤gb286));clear HB;have HB:=n0_;have BK286:=n1_;have GW286:=n2_;have GE286:=n3_;clear n0_ n1_ n2_ n3_;clear hb hbox hg;have hcz15_0:w14.cell? ⟨gb286,0,none⟩=some (.int .i64 0):=(blk_cell BK286.out 0).trans rfl;have hcz15_1:w14.cell? ⟨gb286,1,none⟩=some (.int .i64 0):=(blk_cell BK286.out 1).trans rfl;have hcz15_2:w14.cell? ⟨gb286,2,none⟩=some (.int .i64 0):=(blk_cell BK286.out 2).trans rfl;have hcz15_3:w14.cell? ⟨gb286,3,none⟩=some (.int .i64 0):=(blk_cell BK286.out 3).trans rfl;have hcz15_4:w14.cell? ⟨gb286,4,none⟩=some (.slice none 0 0):=(blk_cell BK286.out 4).trans rfl;have hfz15_0:=blk_frozen BK286.out 0;have hfz15_1:=blk_frozen BK286.out 1;have hfz15_2:=blk_frozen BK286.out 2;have hfz15_3:=blk_frozen BK286.out 3;have hfz15_4:=blk_frozen BK286.out 4))
         go_ret
         exact ⟨by first|rfl|(simp [errW_none,errW_some]<;>rfl)|(simp [*,errW_none,errW_some]<;>rfl),bel⟩
        ·rw [if_neg c13] at H
         have c13b0:decide (1048576<((rd_T41 l0 x3_1).f1))=false:=decide_eq_false c13
         clear c13
         by_cases c16:((rd_T41 l0 x3_1).f3) > 1048576
         ·rw [if_pos c16] at H
          have c16b0:decide (1048576<((rd_T41 l0 x3_1).f3))=true:=decide_eq_true c16
          clear c16
          obtain rfl:=Option.some.inj H
          have p285:0≤(x3_1:Int):=of_decide_eq_true asm
          have q285:x3_1<(l0.length:Int):=of_decide_eq_true asm
          obtain ⟨ad285,A285_4,c285_4,e285,hx285_0,hx285_1,hx285_2,hx285_3,hx285_4,hl285_4,hi285_4⟩:=at_T41 HR0.out x3_1 p285 q285
          cases e285
          replace hx285_0:=pw_cell_below HB.out hx285_0
          replace hx285_1:=pw_cell_below HB.out hx285_1
          replace hx285_2:=pw_cell_below HB.out hx285_2
          replace hx285_3:=pw_cell_below HB.out hx285_3
          replace hx285_4:=pw_cell_below HB.out hx285_4
          have HR285_4:=Aside0.mk hi285_4
          have HC285_4:=Aside0.mk hl285_4
          clear hi285_4 hl285_4
          replace p285:=eq_true p285
          replace q285:=eq_true q285
          go_wp2_with (((with_reducible refine gate_dst (N:=4) rfl ?_);refine box_event ?hg (N:=4) ?hd (cs:=#[.int .i64 0,.int .i64 0,.int .i64 0,.int .i64 0,.slice none 0 0]) (t:=41) ?hr ?_;(case hd=>rfl);(case hg=>rfl);(case hr=>first|(go_simp;done)|(go_simp;rfl));intro gb286 hg w17 hbox hb;have n0_:=Aside0.mk (below_step bel hb);have n1_:=Aside0.mk (hbox);have n2_:=Aside0.mk ((szl:w.heap.size≤gb286));have n3_:=Aside0.mk ((szl:w.heap.size≤gb286));clear HB;have HB:=n0_;have BK286:=n1_;have GW286:=n2_;have GE286:=n3_;clear n0_ n1_ n2_ n3_;clear hb hbox hg;have hcz18_0:w17.cell? ⟨gb286,0,none⟩=some (.int .i64 0):=(blk_cell BK286.out 0).trans rfl;have hcz18_1:w17.cell? ⟨gb286,1,none⟩=some (.int .i64 0):=(blk_cell BK286.out 1).trans rfl;have hcz18_2:w17.cell? ⟨gb286,2,none⟩=some (.int .i64 0):=(blk_cell BK286.out 2).trans rfl;have hcz18_3:w17.cell? ⟨gb286,3,none⟩=some (.int .i64 0):=(blk_cell BK286.out 3).trans rfl;have hcz18_4:w17.cell? ⟨gb286,4,none⟩=some (.slice none 0 0):=(blk_cell BK286.out 4).trans rfl;have hfz18_0:=blk_frozen BK286.out 0;have hfz18_1:=blk_frozen BK286.out 1;have hfz18_2:=blk_frozen BK286.out 2;have hfz18_3:=blk_frozen BK286.out 3;have hfz18_4:=blk_frozen BK286.out 4))
          go_ret
          exact ⟨by first|rfl|(simp [errW_none,errW_some]<;>rfl)|(simp [*,errW_none,errW_some]<;>rfl),bel⟩
         ·rw [if_neg c16] at H
          have c16b0:decide (1048576<((rd_T41 l0 x3_1).f3))=false:=decide_eq_false c16
          clear c16
          by_cases c19:((rd_T41 l0 x3_1).f0)<(-1048576)
          ·rw [if_pos c19] at H
           have c19b0:decide (((rd_T41 l0 x3_1).f0)<(-1048576))=true:=decide_eq_true c19
           clear c19
           obtain rfl:=Option.some.inj H
           have p285:0≤(x3_1:Int):=of_decide_eq_true asm
           have q285:x3_1<(l0.length:Int):=of_decide_eq_true asm
           obtain ⟨ad285,A285_4,c285_4,e285,hx285_0,hx285_1,hx285_2,hx285_3,hx285_4,hl285_4,hi285_4⟩:=at_T41 HR0.out x3_1 p285 q285
           cases e285
           replace hx285_0:=pw_cell_below HB.out hx285_0
           replace hx285_1:=pw_cell_below HB.out hx285_1
           replace hx285_2:=pw_cell_below HB.out hx285_2
           replace hx285_3:=pw_cell_below HB.out hx285_3
           replace hx285_4:=pw_cell_below HB.out hx285_4
           have HR285_4:=Aside0.mk hi285_4
           have HC285_4:=Aside0.mk hl285_4
           clear hi285_4 hl285_4
           replace p285:=eq_true p285
           replace q285:=eq_true q285
           go_wp2_with (((with_reducible refine gate_dst (N:=4) rfl ?_);refine box_event ?hg (N:=4) ?hd (cs:=#[.int .i64 0,.int .i64 0,.int .i64 0,.int .i64 0,.slice none 0 0]) (t:=41) ?hr ?_;(case hd=>rfl);(case hg=>rfl);(case hr=>first|(go_simp;done)|(go_simp;rfl));intro gb286 hg w20 hbox hb;have n0_:=Aside0.mk (below_step bel hb);have n1_:=Aside0.mk (hbox);have n2_:=Aside0.mk ((szl:w.heap.size≤gb286));have n3_:=Aside0.mk ((szl:w.heap.size≤gb286));clear HB;have HB:=n0_;have BK286:=n1_;have GW286:=n2_;have GE286:=n3_;clear n0_ n1_ n2_ n3_;clear hb hbox hg;have hcz21_0:w20.cell? ⟨gb286,0,none⟩=some (.int .i64 0):=(blk_cell BK286.out 0).trans rfl;have hcz21_1:w20.cell? ⟨gb286,1,none⟩=some (.int .i64 0):=(blk_cell BK286.out 1).trans rfl;have hcz21_2:w20.cell? ⟨gb286,2,none⟩=some (.int .i64 0):=(blk_cell BK286.out 2).trans rfl;have hcz21_3:w20.cell? ⟨gb286,3,none⟩=some (.int .i64 0):=(blk_cell BK286.out 3).trans rfl;have hcz21_4:w20.cell? ⟨gb286,4,none⟩=some (.slice none 0 0):=(blk_cell BK286.out 4).trans rfl;have hfz21_0:=blk_frozen BK286.out 0;have hfz21_1:=blk_frozen BK286.out 1;have hfz21_2:=blk_frozen BK286.out 2;have hfz21_3:=blk_frozen BK286.out 3;have hfz21_4:=blk_frozen BK286.out 4))
           go_ret
           exact ⟨by first|rfl|(simp [errW_none,errW_some]<;>rfl)|(simp [*,errW_none,errW_some]<;>rfl),bel⟩
          ·rw [if_neg c19] at H
           have c19b0:decide (((rd_T41 l0 x3_1).f0)<(-1048576))=false:=decide_eq_false c19
           clear c19
           by_cases c22:((rd_T41 l0 x3_1).f2)<(-1048576)
           ·rw [if_pos c22] at H
            have c22b0:decide (((rd_T41 l0 x3_1).f2)<(-1048576))=true:=decide_eq_true c22
            clear c22
            obtain rfl:=Option.some.inj H
            have p285:0≤(x3_1:Int):=of_decide_eq_true asm
            have q285:x3_1<(l0.length:Int):=of_decide_eq_true asm
            obtain ⟨ad285,A285_4,c285_4,e285,hx285_0,hx285_1,hx285_2,hx285_3,hx285_4,hl285_4,hi285_4⟩:=at_T41 HR0.out x3_1 p285 q285
            cases e285
            replace hx285_0:=pw_cell_below HB.out hx285_0
            replace hx285_1:=pw_cell_below HB.out hx285_1
            replace hx285_2:=pw_cell_below HB.out hx285_2
            replace hx285_3:=pw_cell_below HB.out hx285_3
            replace hx285_4:=pw_cell_below HB.out hx285_4
            have HR285_4:=Aside0.mk hi285_4
            have HC285_4:=Aside0.mk hl285_4
            clear hi285_4 hl285_4
            replace p285:=eq_true p285
            replace q285:=eq_true q285
            go_wp2_with (((with_reducible refine gate_dst (N:=4) rfl ?_);refine box_event ?hg (N:=4) ?hd (cs:=#[.int .i64 0,.int .i64 0,.int .i64 0,.int .i64 0,.slice none 0 0]) (t:=41) ?hr ?_;(case hd=>rfl);(case hg=>rfl);(case hr=>first|(go_simp;done)|(go_simp;rfl));intro gb286 hg w23 hbox hb;have n0_:=Aside0.mk (below_step bel hb);have n1_:=Aside0.mk (hbox);have n2_:=Aside0.mk ((szl:w.heap.size≤gb286));have n3_:=Aside0.mk ((szl:w.heap.size≤gb286));clear HB;have HB:=n0_;have BK286:=n1_;have GW286:=n2_;have GE286:=n3_;clear n0_ n1_ n2_ n3_;clear hb hbox hg;have hcz24_0:w23.cell? ⟨gb286,0,none⟩=some (.int .i64 0):=(blk_cell BK286.out 0).trans rfl;have hcz24_1:w23.cell? ⟨gb286,1,none⟩=some (.int .i64 0):=(blk_cell BK286.out 1).trans rfl;have hcz24_2:w23.cell? ⟨gb286,2,none⟩=some (.int .i64 0):=(blk_cell BK286.out 2).trans rfl;have hcz24_3:w23.cell? ⟨gb286,3,none⟩=some (.int .i64 0):=(blk_cell BK286.out 3).trans rfl;have hcz24_4:w23.cell? ⟨gb286,4,none⟩=some (.slice none 0 0):=(blk_cell BK286.out 4).trans rfl;have hfz24_0:=blk_frozen BK286.out 0;have hfz24_1:=blk_frozen BK286.out 1;have hfz24_2:=blk_frozen BK286.out 2;have hfz24_3:=blk_frozen BK286.out 3;have hfz24_4:=blk_frozen BK286.out 4))
            go_ret
            exact ⟨by first|rfl|(simp [errW_none,errW_some]<;>rfl)|(simp [*,errW_none,errW_some]<;>rfl),bel⟩
           ·rw [if_neg c22] at H
            have c22b0:decide (((rd_T41 l0 x3_1).f2)<(-1048576))=false:=decide_eq_false c22
            clear c22
            by_cases c25:((rd_T41 l0 x3_1).f1)<(-1048576)
            ·rw [if_pos c25] at H
             have c25b0:decide (((rd_T41 l0 x3_1).f1)<(-1048576))=true:=decide_eq_true c25
             clear c25
             obtain rfl:=Option.some.inj H
             have p285:0≤(x3_1:Int):=of_decide_eq_true asm
             have q285:x3_1<(l0.length:Int):=of_decide_eq_true asm
             obtain ⟨ad285,A285_4,c285_4,e285,hx285_0,hx285_1,hx285_2,hx285_3,hx285_4,hl285_4,hi285_4⟩:=at_T41 HR0.out x3_1 p285 q285
             cases e285
             replace hx285_0:=pw_cell_below HB.out hx285_0
             replace hx285_1:=pw_cell_below HB.out hx285_1
             replace hx285_2:=pw_cell_below HB.out hx285_2
             replace hx285_3:=pw_cell_below HB.out hx285_3
             replace hx285_4:=pw_cell_below HB.out hx285_4
             have HR285_4:=Aside0.mk hi285_4
             have HC285_4:=Aside0.mk hl285_4
             clear hi285_4 hl285_4
             replace p285:=eq_true p285
             replace q285:=eq_true q285
             go_wp2_with (((with_reducible refine gate_dst (N:=4) rfl ?_);refine box_event ?hg (N:=4) ?hd (cs:=#[.int .i64 0,.int .i64 0,.int .i64 0,.int .i64 0,.slice none 0 0]) (t:=41) ?hr ?_;(case hd=>rfl);(case hg=>rfl);(case hr=>first|(go_simp;done)|(go_simp;rfl));intro gb286 hg w26 hbox hb;have n0_:=Aside0.mk (below_step bel hb);have n1_:=Aside0.mk (hbox);have n2_:=Aside0.mk ((szl:w.heap.size≤gb286));have n3_:=Aside0.mk ((szl:w.heap.size≤gb286));clear HB;have HB:=n0_;have BK286:=n1_;have GW286:=n2_;have GE286:=n3_;clear n0_ n1_ n2_ n3_;clear hb hbox hg;have hcz27_0:w26.cell? ⟨gb286,0,none⟩=some (.int .i64 0):=(blk_cell BK286.out 0).trans rfl;have hcz27_1:w26.cell? ⟨gb286,1,none⟩=some (.int .i64 0):=(blk_cell BK286.out 1).trans rfl;have hcz27_2:w26.cell? ⟨gb286,2,none⟩=some (.int .i64 0):=(blk_cell BK286.out 2).trans rfl;have hcz27_3:w26.cell? ⟨gb286,3,none⟩=some (.int .i64 0):=(blk_cell BK286.out 3).trans rfl;have hcz27_4:w26.cell? ⟨gb286,4,none⟩=some (.slice none 0 0):=(blk_cell BK286.out 4).trans rfl;have hfz27_0:=blk_frozen BK286.out 0;have hfz27_1:=blk_frozen BK286.out 1;have hfz27_2:=blk_frozen BK286.out 2;have hfz27_3:=blk_frozen BK286.out 3;have hfz27_4:=blk_frozen BK286.out 4))
             go_ret
             exact ⟨by first|rfl|(simp [errW_none,errW_some]<;>rfl)|(simp [*,errW_none,errW_some]<;>rfl),bel⟩
            ·rw [if_neg c25] at H
             have c25b0:decide (((rd_T41 l0 x3_1).f1)<(-1048576))=false:=decide_eq_false c25
             clear c25
             by_cases c28:((rd_T41 l0 x3_1).f3)<(-1048576)
             ·rw [if_pos c28] at H
              have c28b0:decide (((rd_T41 l0 x3_1).f3)<(-1048576))=true:=decide_eq_true c28
              clear c28
              obtain rfl:=Option.some.inj H
              have p285:0≤(x3_1:Int):=of_decide_eq_true asm
              have q285:x3_1<(l0.length:Int):=of_decide_eq_true asm
              obtain ⟨ad285,A285_4,c285_4,e285,hx285_0,hx285_1,hx285_2,hx285_3,hx285_4,hl285_4,hi285_4⟩:=at_T41 HR0.out x3_1 p285 q285
              cases e285
              replace hx285_0:=pw_cell_below HB.out hx285_0
              replace hx285_1:=pw_cell_below HB.out hx285_1
              replace hx285_2:=pw_cell_below HB.out hx285_2
              replace hx285_3:=pw_cell_below HB.out hx285_3
              replace hx285_4:=pw_cell_below HB.out hx285_4
              have HR285_4:=Aside0.mk hi285_4
              have HC285_4:=Aside0.mk hl285_4
              clear hi285_4 hl285_4
              replace p285:=eq_true p285
              replace q285:=eq_true q285
              go_wp2_with (((with_reducible refine gate_dst (N:=4) rfl ?_);refine box_event ?hg (N:=4) ?hd (cs:=#[.int .i64 0,.int .i64 0,.int .i64 0,.int .i64 0,.slice none 0 0]) (t:=41) ?hr ?_;(case hd=>rfl);(case hg=>rfl);(case hr=>first|(go_simp;done)|(go_simp;rfl));intro gb286 hg w29 hbox hb;have n0_:=Aside0.mk (below_step bel hb);have n1_:=Aside0.mk (hbox);have n2_:=Aside0.mk ((szl:w.heap.size≤gb286));have n3_:=Aside0.mk ((szl:w.heap.size≤gb286));clear HB;have HB:=n0_;have BK286:=n1_;have GW286:=n2_;have GE286:=n3_;clear n0_ n1_ n2_ n3_;clear hb hbox hg;have hcz30_0:w29.cell? ⟨gb286,0,none⟩=some (.int .i64 0):=(blk_cell BK286.out 0).trans rfl;have hcz30_1:w29.cell? ⟨gb286,1,none⟩=some (.int .i64 0):=(blk_cell BK286.out 1).trans rfl;have hcz30_2:w29.cell? ⟨gb286,2,none⟩=some (.int .i64 0):=(blk_cell BK286.out 2).trans rfl;have hcz30_3:w29.cell? ⟨gb286,3,none⟩=some (.int .i64 0):=(blk_cell BK286.out 3).trans rfl;have hcz30_4:w29.cell? ⟨gb286,4,none⟩=some (.slice none 0 0):=(blk_cell BK286.out 4).trans rfl;have hfz30_0:=blk_frozen BK286.out 0;have hfz30_1:=blk_frozen BK286.out 1;have hfz30_2:=blk_frozen BK286.out 2;have hfz30_3:=blk_frozen BK286.out 3;have hfz30_4:=blk_frozen BK286.out 4))
              go_ret
              exact ⟨by first|rfl|(simp [errW_none,errW_some]<;>rfl)|(simp [*,errW_none,errW_some]<;>rfl),bel⟩
             ·rw [if_neg c28] at H
              have c28b0:decide (((rd_T41 l0 x3_1).f3)<(-1048576))=false:=decide_eq_false c28
              clear c28
              have H':=Aside0.mk H
              clear H
              have p285:0≤(x3_1:Int):=of_decide_eq_true asm
              have q285:x3_1<(l0.length:Int):=of_decide_eq_true asm
              obtain ⟨ad285,A285_4,c285_4,e285,hx285_0,hx285_1,hx285_2,hx285_3,hx285_4,hl285_4,hi285_4⟩:=at_T41 HR0.out x3_1 p285 q285
              cases e285
              replace hx285_0:=pw_cell_below HB.out hx285_0
              replace hx285_1:=pw_cell_below HB.out hx285_1
              replace hx285_2:=pw_cell_below HB.out hx285_2
              replace hx285_3:=pw_cell_below HB.out hx285_3
              replace hx285_4:=pw_cell_below HB.out hx285_4
              have HR285_4:=Aside0.mk hi285_4
              have HC285_4:=Aside0.mk hl285_4
              clear hi285_4 hl285_4
              replace p285:=eq_true p285
              replace q285:=eq_true q285
              go_wp2_with (((with_reducible refine gate_dst (N:=4) rfl ?_);refine box_event ?hg (N:=4) ?hd (cs:=#[.int .i64 0,.int .i64 0,.int .i64 0,.int .i64 0,.slice none 0 0]) (t:=41) ?hr ?_;(case hd=>rfl);(case hg=>rfl);(case hr=>first|(go_simp;done)|(go_simp;rfl));intro gb286 hg w31 hbox hb;have n0_:=Aside0.mk (below_step bel hb);have n1_:=Aside0.mk (hbox);have n2_:=Aside0.mk ((szl:w.heap.size≤gb286));have n3_:=Aside0.mk ((szl:w.heap.size≤gb286));clear HB;have HB:=n0_;have BK286:=n1_;have GW286:=n2_;have GE286:=n3_;clear n0_ n1_ n2_ n3_;clear hb hbox hg;have hcz32_0:w31.cell? ⟨gb286,0,none⟩=some (.int .i64 0):=(blk_cell BK286.out 0).trans rfl;have hcz32_1:w31.cell? ⟨gb286,1,none⟩=some (.int .i64 0):=(blk_cell BK286.out 1).trans rfl;have hcz32_2:w31.cell? ⟨gb286,2,none⟩=some (.int .i64 0):=(blk_cell BK286.out 2).trans rfl;have hcz32_3:w31.cell? ⟨gb286,3,none⟩=some (.int .i64 0):=(blk_cell BK286.out 3).trans rfl;have hcz32_4:w31.cell? ⟨gb286,4,none⟩=some (.slice none 0 0):=(blk_cell BK286.out 4).trans rfl;have hfz32_0:=blk_frozen BK286.out 0;have hfz32_1:=blk_frozen BK286.out 1;have hfz32_2:=blk_frozen BK286.out 2;have hfz32_3:=blk_frozen BK286.out 3;have hfz32_4:=blk_frozen BK286.out 4))
              go_roundg k1
              case measure=>have:=HK1.out;omega
              case rel=>exact ⟨(wrap64 (x3_1+1)),rx,H',⟨by have:=HK1.out;omega⟩,⟨by repeat (first|(with_reducible first|exact HB.out|apply below_alloc|apply pw_below_drewN|apply below_drew1|refine below_set ?_ GE286.out)|exact HB.out)⟩⟩
    ·rw [if_neg c3] at H
     exact absurd H (by simp)
   ·rw [if_neg c2] at H
    have c2b0:decide (x3_1<(l0.length:Int))=false:=decide_eq_false c2
    clear c2
    obtain rfl:=Option.some.inj H
    go_wp2
    go_ret
    exact ⟨by first|rfl|(simp [errW_none,errW_some]<;>rfl)|(simp [*,errW_none,errW_some]<;>rfl),bel⟩

end Go.Proofs.Ytoaijganmfijmaa.Pr
-- shrunk
/-
Whether hunks are few, in plain Lean.
-/
namespace Go.Proofs.Ytoaijganmfijmaa.Pr
open Go.RowKit Go.Proofs.YtoaijganmfijmaaW.PrintWords Go.Proofs.YtoaijganmfijmaaW.PrintLast Go.Proofs.YtoaijganmfijmaaW.PrintMore
def FewH (h:Hk):Prop:=h.f4.length≤30∧h.f0≤1048576∧h.f2≤1048576∧h.f1≤1048576∧h.f3≤1048576 ∧ -1048576≤h.f0 ∧ -1048576≤h.f2 ∧ -1048576≤h.f1 ∧ -1048576≤h.f3
instance (h:Hk):Decidable (FewH h):=by unfold FewH;exact inferInstance
def fewL (l:List Hk):Bool:=l.all (fun h=>decide (FewH h)) && decide (l.length≤12)
theorem FewA_l0 (l:List Hk) (hn:l.length≤4611686018427387904):∀ d i,l.length - i=d→i≤l.length →
  Ev (fun k=>r05_Few.l0 k l (i:Int)) ((l.drop i).all (fun h=>decide (FewH h)) && decide (l.length≤12)):=by
 intro d
 induction d with
 | zero =>
  intro i hd hi
  refine Ev.step (fun _=>r05_Few.l0.eq_2 ..) ?_
  simp only [if_neg (show ¬ (i:Int)<(l.length:Int) by omega)]
  rw [List.drop_of_length_le (by omega)]
  rw [List.all_nil,Bool.true_and,show decide ((l.length:Int)≤12)=decide (l.length≤12) by rw [decide_eq_decide];omega]
  exact Ev.now _
 | succ d ih =>
  intro i hd hi
  have hlt:i<l.length:=by omega
  have hr:=ih (i+1) (by omega) (by omega)
  refine Ev.step (fun _=>r05_Few.l0.eq_2 ..) ?_
  simp only [if_pos (show (i:Int)<(l.length:Int) by omega),if_pos (show (0:Int)≤(i:Int) by omega),rdH_at hlt,w_succ hlt hn]
  rw [List.drop_eq_getElem_cons hlt,List.all_cons]
  generalize l[i]=h
  have no:¬ FewH h→(decide (FewH h) && (l.drop (i+1)).all (fun h=>decide (FewH h)) && decide (l.length≤12))=false:=fun hh=>by rw [decide_eq_false hh];rfl
  by_cases c1:(h.f4.length:Int) > 30
  ·simp only [if_pos c1]
   rw [no (fun f=>by have:=f.1;omega)];exact Ev.now _
  simp only [if_neg c1]
  by_cases c2:h.f0 > 1048576
  ·simp only [if_pos c2]
   rw [no (fun f=>by have:=f.2.1;omega)];exact Ev.now _
  simp only [if_neg c2]
  by_cases c3:h.f2 > 1048576
  ·simp only [if_pos c3]
   rw [no (fun f=>by have:=f.2.2.1;omega)];exact Ev.now _
  simp only [if_neg c3]
  by_cases c4:h.f1 > 1048576
  ·simp only [if_pos c4]
   rw [no (fun f=>by have:=f.2.2.2.1;omega)];exact Ev.now _
  simp only [if_neg c4]
  by_cases c5:h.f3 > 1048576
  ·simp only [if_pos c5]
   rw [no (fun f=>by have:=f.2.2.2.2.1;omega)];exact Ev.now _
  simp only [if_neg c5]
  by_cases c6:h.f0 < -1048576
  ·simp only [if_pos c6]
   rw [no (fun f=>by have:=f.2.2.2.2.2.1;omega)];exact Ev.now _
  simp only [if_neg c6]
  by_cases c7:h.f2 < -1048576
  ·simp only [if_pos c7]
   rw [no (fun f=>by have:=f.2.2.2.2.2.2.1;omega)];exact Ev.now _
  simp only [if_neg c7]
  by_cases c8:h.f1 < -1048576
  ·simp only [if_pos c8]
   rw [no (fun f=>by have:=f.2.2.2.2.2.2.2.1;omega)];exact Ev.now _
  simp only [if_neg c8]
  by_cases c9:h.f3 < -1048576
  ·simp only [if_pos c9]
   rw [no (fun f=>by have:=f.2.2.2.2.2.2.2.2;omega)];exact Ev.now _
  simp only [if_neg c9]
  have hf:FewH h:=⟨by omega,by omega,by omega,by omega,by omega,by omega,by omega,by omega,by omega⟩
  rw [decide_eq_true hf,Bool.true_and]
  exact hr
theorem FewA_ev (l:List Hk) (hn:l.length≤4611686018427387904):Ev (fun k=>r05_Few.f k l) (fewL l):=by
 have h:=FewA_l0 l hn _ 0 rfl (by omega)
 exact h
theorem fewL_of {l:List Hk} (h:fewL l=true):(∀ h ∈ l,FewH h)∧l.length≤12:=by
 unfold fewL at h
 rw [Bool.and_eq_true,decide_eq_true_eq,List.all_eq_true] at h
 exact ⟨fun x hx=>of_decide_eq_true (h.1 x hx),h.2⟩
theorem fewL_small {a:List ByteArray} {l:List Hk} (ha:a.length≤65536) (h:fewL l=true):SmallA a l:=by
 have hf:=fewL_of h
 refine ⟨ha,by omega,fun x hx=>?_⟩
 obtain ⟨h1,h2,h3,h4,h5,h6,h7,h8,h9⟩:=hf.1 x hx
 exact ⟨by omega,by omega,by omega,by omega,by omega⟩
end Go.Proofs.Ytoaijganmfijmaa.Pr
-- shrunk
/-
Lines of a hunk that is right are blocks.
-/
namespace Go.Proofs.Ytoaijganmfijmaa.Pr
open Go.RowKit Go.Proofs.YtoaijganmfijmaaW.PrintWords Go.Proofs.YtoaijganmfijmaaW.PrintLast Go.Proofs.YtoaijganmfijmaaW.PrintMore
theorem sg_tl (c:UInt8) (s:ByteArray) (h:0<s.size) (hb:bt s 0=(c.toNat:Int)):sg c (tl s)=s:=by
 have h0:(0:Int).toNat<s.size:=h
 unfold bt at hb
 rw [dif_pos h0] at hb
 have hc:s[(0:Int).toNat]'h0=c:=UInt8.toNat_inj.1 (by omega)
 have hd:0<s.data.size:=h
 apply ByteArray.ext
 show (sg c (tl s)).data=s.data
 rw [sg,tl,ByteArray.data_append,ByteArray.data_extract]
 apply Array.ext
 ·simp only [Array.size_append,Array.size_extract]
  show 1+(min s.data.size s.data.size - 1)=_
  omega
 intro i h1 h2
 rw [Array.getElem_append]
 by_cases hi:i<1
 ·have e:i=0:=by omega
  subst e
  rw [dif_pos (by show 0<1;omega)]
  show c=_
  rw [← hc]
  rfl
 rw [dif_neg (by show ¬ i<1;exact hi),Array.getElem_extract]
 congr 1
 show 1+(i - 1)=i
 omega
def Suf (came:Bool) (L:List ByteArray):Prop:=∃ (d i:List ByteArray) (bs:List Blk) (t:List ByteArray),L=sgs 45 d++(sgs 43 i++blkLines bs t)∧BOk false bs∧(came=true→d=[])
theorem suf_of:∀ (L:List ByteArray) (came:Bool) (an bn x y:Int),cntL came an bn L=(x,y,true)→Suf came L
 | [],came,an,bn,x,y,h=>⟨[],[],[],[],rfl,trivial,fun _=>rfl⟩
 | s :: L,came,an,bn,x,y,h=>by
  rw [cntL] at h
  by_cases h0:s.toList=([]:List UInt8)
  ·rw [if_pos h0] at h;simp at h
  rw [if_neg h0] at h
  have hp:=ne_size h0
  by_cases h1:bt s 0=45∧came=true
  ·rw [if_pos h1] at h;simp at h
  rw [if_neg h1] at h
  by_cases b32:bt s 0=32
  ·rw [if_pos b32] at h
   obtain ⟨d,i,bs,t,hL,hB,_⟩:=suf_of L false _ _ _ _ h
   have hs:=sg_tl 32 s hp b32
   by_cases he:d=[]∧i=[]
   ·obtain ⟨rfl,rfl⟩:=he
    have hL':L=blkLines bs t:=hL
    cases bs with
    | nil=>exact ⟨[],[],[],tl s :: t,by rw [hL'];show s :: sgs 32 t=sg 32 (tl s) :: sgs 32 t;rw [hs],trivial,fun _=>rfl⟩
    | cons b bs =>
     refine ⟨[],[],⟨tl s :: b.k,b.d,b.i⟩ :: bs,t,?_,⟨hB.1,Or.inr (by simp),hB.2.2⟩,fun _=>rfl⟩
     rw [hL']
     show s :: (sgs 32 b.k++_)=sg 32 (tl s) :: (sgs 32 b.k++_)
     rw [hs]
   ·refine ⟨[],[],⟨[tl s],d,i⟩ :: bs,t,?_,⟨?_,Or.inr (by simp),hB⟩,fun _=>rfl⟩
    ·rw [hL]
     show s :: _=sg 32 (tl s) :: _
     rw [hs]
     rfl
    ·by_cases hd:d=[]
     ·exact Or.inr (fun hi=>he ⟨hd,hi⟩)
     ·exact Or.inl hd
  rw [if_neg b32] at h
  by_cases b43:bt s 0=43
  ·rw [if_pos b43] at h
   obtain ⟨d,i,bs,t,hL,hB,hd⟩:=suf_of L true _ _ _ _ h
   have hs:=sg_tl 43 s hp b43
   obtain rfl:=hd rfl
   refine ⟨[],tl s :: i,bs,t,?_,hB,fun _=>rfl⟩
   rw [hL]
   show s :: _=sg 43 (tl s) :: _
   rw [hs]
   rfl
  rw [if_neg b43] at h
  by_cases b45:bt s 0=45
  ·rw [if_pos b45] at h
   obtain ⟨d,i,bs,t,hL,hB,hd⟩:=suf_of L false _ _ _ _ h
   have hs:=sg_tl 45 s hp b45
   refine ⟨tl s :: d,i,bs,t,?_,hB,fun hc=>absurd ⟨b45,hc⟩ h1⟩
   rw [hL]
   show s :: _=sg 45 (tl s) :: _
   rw [hs]
   rfl
  ·rw [if_neg b45] at h;simp at h
theorem BOk_first (bs:List Blk) (h:BOk false bs):BOk true bs:=by
 cases bs with
 | nil=>trivial
 | cons b bs=>exact ⟨h.1,Or.inl rfl,h.2.2⟩
theorem right_blocks (L:List ByteArray) (x y:Int) (h:cntL false 0 0 L=(x,y,true)):∃ (bs:List Blk) (t:List ByteArray),BOk true bs∧L=blkLines bs t:=by
 obtain ⟨d,i,bs,t,hL,hB,_⟩:=suf_of L false _ _ _ _ h
 by_cases he:d=[]∧i=[]
 ·obtain ⟨rfl,rfl⟩:=he
  exact ⟨bs,t,BOk_first bs hB,hL⟩
 refine ⟨⟨[],d,i⟩ :: bs,t,⟨?_,Or.inl rfl,hB⟩,hL⟩
 by_cases hd:d=[]
 ·exact Or.inr (fun hi=>he ⟨hd,hi⟩)
 exact Or.inl hd
theorem blk_big_of (M:Nat) (hM:M≤4611686018427387904):∀ (bs:List Blk) (t:List ByteArray),(∀ s ∈ blkLines bs t,s.size≤M)→blkBig bs
 | [],t,h=>trivial
 | b :: bs,t,h=>by
  refine ⟨fun s hs=>?_,blk_big_of M hM bs t (fun s hs=>h s (by simp only [blkLines,List.mem_append];exact Or.inr (Or.inr (Or.inr hs))))⟩
  have key:∀ c:UInt8,sg c s ∈ blkLines (b :: bs) t→s.size≤4611686018427387904:=fun c hc=>by
   have:=h _ hc
   rw [sg_size] at this
   omega
  rcases List.mem_append.1 hs with hs|hs
  ·exact key 45 (by simp only [blkLines,List.mem_append];exact Or.inr (Or.inl (List.mem_map.2 ⟨s,hs,rfl⟩)))
  ·exact key 43 (by simp only [blkLines,List.mem_append];exact Or.inr (Or.inr (Or.inl (List.mem_map.2 ⟨s,hs,rfl⟩))))
theorem blkLines_len_eq:∀ (bs:List Blk) (t:List ByteArray),oldN bs+t.length≤(blkLines bs t).length∧newN bs+t.length≤(blkLines bs t).length∧bs.length≤(blkLines bs t).length+bs.length
 | [],t=>by simp [blkLines,sgs_len,oldN,newN]
 | b :: bs,t=>by
  have:=blkLines_len_eq bs t
  simp only [blkLines,List.length_append,sgs_len,oldN,newN,List.length_cons];omega
end Go.Proofs.Ytoaijganmfijmaa.Pr
-- shrunk
