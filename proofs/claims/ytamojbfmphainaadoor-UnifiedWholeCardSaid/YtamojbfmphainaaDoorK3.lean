/-
Several plain texts in one.
-/
import Derived.Test.YtamojbfmphainaaDoorK2
import Derived.Test.YtamojbfmphainaaDoorK0
set_option linter.unusedVariables false
set_option linter.unusedSimpArgs false
/-
What is between two lists: it is right, played it is the other one; its size: plain facts on lists.
-/
namespace Go.Proofs.YtamojbfmphainaaDoor.Pr
def edG:Option Ed→Int→List Step→List Ed
 | none,_,[]=>[]
 | some e,_,[]=>[e]
 | none,t,.keep :: r=>edG none (t+1) r
 | some e,t,.keep :: r=>e :: edG none (t+1) r
 | none,t,.del :: r=>edG (some ⟨t,1,[]⟩) (t+1) r
 | some e,t,.del :: r=>edG (some ⟨e.f0,e.f1+1,e.f2⟩) (t+1) r
 | none,t,.ins s :: r=>edG (some ⟨t,0,[s]⟩) t r
 | some e,t,.ins s :: r=>edG (some ⟨e.f0,e.f1,e.f2++[s]⟩) t r
theorem edLast_snoc (out:List Ed) (e:Ed):edLast (out++[e])=e:=by simp [edLast]
theorem addDel_snoc (out:List Ed) (e:Ed):addDel (out++[e])=out++[⟨e.f0,e.f1+1,e.f2⟩]:=by
 rw [addDel,edLast_snoc]
 simp
theorem addIns_snoc (s:ByteArray) (out:List Ed) (e:Ed):addIns s (out++[e])=out++[⟨e.f0,e.f1,e.f2++[s]⟩]:=by
 rw [addIns,edLast_snoc]
 simp
theorem edits_edG:∀ (r:List Step) (t:Int) (out:List Ed),edits t false out r=out++edG none t r∧∀ e,edits t true (out++[e]) r=out++edG (some e) t r
 | [],t,out=>⟨by simp [edits,edG],fun e=>by simp [edits,edG]⟩
 | .keep :: r,t,out=>⟨by rw [edits,edG];exact (edits_edG r (t+1) out).1,fun e=>by rw [edits,edG,(edits_edG r (t+1) (out++[e])).1];simp⟩
 | .del :: r,t,out=>⟨by
   rw [edits,edG,opened,if_neg (by simp),addDel_snoc]
   exact (edits_edG r (t+1) out).2 _,fun e=>by
   rw [edits,edG,opened,if_pos rfl,addDel_snoc]
   exact (edits_edG r (t+1) out).2 _⟩
 | .ins s :: r,t,out=>⟨by
   rw [edits,edG,opened,if_neg (by simp),addIns_snoc]
   exact (edits_edG r t out).2 _,fun e=>by
   rw [edits,edG,opened,if_pos rfl,addIns_snoc]
   exact (edits_edG r t out).2 _⟩
def app:List Step→List ByteArray→List ByteArray
 | [],s=>s
 | .keep :: r,x :: s=>x :: app r s
 | .keep :: r,[]=>app r []
 | .del :: r,_ :: s=>app r s
 | .del :: r,[]=>app r []
 | .ins y :: r,s=>y :: app r s
def cnt:List Step→Nat
 | []=>0
 | .keep :: r=>cnt r+1
 | .del :: r=>cnt r+1
 | .ins _ :: r=>cnt r
def chg:List Step→Nat
 | []=>0
 | .keep :: r=>chg r
 | .del :: r=>chg r+1
 | .ins _ :: r=>chg r+1
theorem play_edG:∀ (r:List Step) (pre s:List ByteArray) (t:Int),cnt r≤s.length →
  playR (pre++s) t (edG none (t+pre.length) r)=pre++app r s ∧
  ∀ (e:Ed) (D:List ByteArray),e.f0=t+pre.length→e.f1=D.length→playR (pre++D++s) t (edG (some e) (t+pre.length+D.length) r)=pre++e.f2++app r s
 | [],pre,s,t,h=>⟨by simp [edG,playR,app],fun e D h0 h1=>by
   simp only [edG,playR,app]
   rw [show (e.f0 - t).toNat=pre.length by omega,show (e.f0 - t+e.f1).toNat=(pre++D).length by rw [List.length_append];omega,List.drop_left,List.append_assoc pre D s,List.take_left]⟩
 | .keep :: r,pre,[],t,h=>by simp [cnt] at h
 | .keep :: r,pre,x :: s,t,h=>by
  have hc:cnt r≤s.length:=by simp [cnt] at h;exact h
  refine ⟨?_,fun e D h0 h1=>?_⟩
  ·have h2:=(play_edG r (pre++[x]) s t hc).1
   rw [List.length_append,List.length_singleton] at h2
   rw [edG,app,show t+(pre.length:Int)+1=t+((pre.length+1:Nat):Int) by omega]
   simpa using h2
  ·rw [edG,app]
   simp only [playR]
   have h2:=(play_edG r [x] s (e.f0+e.f1) hc).1
   rw [show (e.f0 - t).toNat=pre.length by omega,show (e.f0 - t+e.f1).toNat=(pre++D).length by rw [List.length_append];omega,List.drop_left,List.append_assoc pre D,List.take_left]
   rw [show t+(pre.length:Int)+(D.length:Int)+1=e.f0+e.f1+(([x]:List ByteArray).length:Int) by simp;omega]
   have h3:playR (x :: s) (e.f0+e.f1) (edG none (e.f0+e.f1+(([x]:List ByteArray).length:Int)) r)=x :: app r s:=by simpa using h2
   rw [h3]
 | .del :: r,pre,[],t,h=>by simp [cnt] at h
 | .del :: r,pre,x :: s,t,h=>by
  have hc:cnt r≤s.length:=by simp [cnt] at h;exact h
  refine ⟨?_,fun e D h0 h1=>?_⟩
  ·have h2:=(play_edG r pre s t hc).2 ⟨t+pre.length,1,[]⟩ [x] rfl (by simp)
   rw [edG,app]
   simpa using h2
  ·have h2:=(play_edG r pre s t hc).2 ⟨e.f0,e.f1+1,e.f2⟩ (D++[x]) h0 (by simp [h1])
   rw [edG,app]
   rw [List.length_append,List.length_singleton] at h2
   rw [show t+(pre.length:Int)+(D.length:Int)+1=t+(pre.length:Int)+((D.length+1:Nat):Int) by omega]
   simpa using h2
 | .ins y :: r,pre,s,t,h=>by
  have hc:cnt r≤s.length:=by simpa [cnt] using h
  refine ⟨?_,fun e D h0 h1=>?_⟩
  ·have h2:=(play_edG r pre s t hc).2 ⟨t+pre.length,0,[y]⟩ [] rfl (by simp)
   rw [edG,app]
   simpa using h2
  ·have h2:=(play_edG r pre s t hc).2 ⟨e.f0,e.f1,e.f2++[y]⟩ D h0 h1
   rw [edG,app]
   simpa using h2
theorem ok_edG (many:Int):∀ (r:List Step) (fr t:Int),t+cnt r≤many →
  (fr≤t→okFrom fr many (edG none t r)=true)∧∀ e:Ed,fr≤e.f0→0≤e.f1→¬ (e.f1=0∧e.f2=[])→e.f0+e.f1=t→okFrom fr many (edG (some e) t r)=true
 | [],fr,t,h=>⟨fun _=>rfl,fun e h0 h1 h2 h3=>by
   simp only [cnt] at h
   simp only [edG,okFrom,Bool.and_true]
   exact decide_eq_true ⟨h0,h1,by omega,by omega,h2⟩⟩
 | .keep :: r,fr,t,h=>⟨fun hf=>by
   simp only [cnt] at h
   rw [edG]
   exact (ok_edG many r fr (t+1) (by push_cast at h;omega)).1 (by omega),fun e h0 h1 h2 h3=>by
   simp only [cnt] at h
   simp only [edG,okFrom]
   rw [decide_eq_true ⟨h0,h1,by push_cast at h;omega,by push_cast at h;omega,h2⟩,Bool.true_and]
   exact (ok_edG many r _ (t+1) (by push_cast at h;omega)).1 (by omega)⟩
 | .del :: r,fr,t,h=>⟨fun hf=>by
   simp only [cnt] at h
   rw [edG]
   exact (ok_edG many r fr (t+1) (by push_cast at h;omega)).2 ⟨t,1,[]⟩ hf (by simp) (by simp) rfl,fun e h0 h1 h2 h3=>by
   simp only [cnt] at h
   rw [edG]
   exact (ok_edG many r fr (t+1) (by push_cast at h;omega)).2 ⟨e.f0,e.f1+1,e.f2⟩ h0 (by show 0≤e.f1+1;omega) (fun hh=>by have:e.f1+1=0:=hh.1;omega) (by show e.f0+(e.f1+1)=t+1;omega)⟩
 | .ins y :: r,fr,t,h=>⟨fun hf=>by
   simp only [cnt] at h
   rw [edG]
   exact (ok_edG many r fr t h).2 ⟨t,0,[y]⟩ hf (by simp) (by simp) (by simp),fun e h0 h1 h2 h3=>by
   simp only [cnt] at h
   rw [edG]
   exact (ok_edG many r fr t h).2 ⟨e.f0,e.f1,e.f2++[y]⟩ h0 h1 (by simp) h3⟩
theorem size_edG:∀ (r:List Step) (t:Int),sizeE (edG none t r)=chg r∧∀ e:Ed,0≤e.f1→sizeE (edG (some e) t r)=e.f1+e.f2.length+chg r
 | [],t=>⟨by simp [edG,sizeE,chg],fun e h=>by simp only [edG,sizeE,chg];omega⟩
 | .keep :: r,t=>⟨by rw [edG,chg];exact (size_edG r _).1,fun e h=>by rw [edG,chg,sizeE,(size_edG r _).1];omega⟩
 | .del :: r,t=>⟨by rw [edG,chg,(size_edG r _).2 _ (by simp)];simp;omega,fun e h=>by rw [edG,chg,(size_edG r _).2 _ (by show 0≤e.f1+1;omega)];push_cast;omega⟩
 | .ins y :: r,t=>⟨by rw [edG,chg,(size_edG r _).2 _ (by simp)];simp;omega,fun e h=>by rw [edG,chg,(size_edG r _).2 ⟨e.f0,e.f1,e.f2++[y]⟩ h];simp;omega⟩
theorem steps_app (E:List ByteArray):∀ x y:List ByteArray,app (steps x y) (x++E)=y++E∧cnt (steps x y)=x.length
 | [],[]=>⟨by simp [steps,app],by simp [steps,cnt]⟩
 | [],y :: ys=>by
  have h:=steps_app E [] ys
  rw [steps]
  exact ⟨by rw [app,h.1];rfl,by rw [cnt,h.2]⟩
 | x :: xs,[]=>by
  have h:=steps_app E xs []
  rw [steps]
  exact ⟨by rw [List.cons_append,app,h.1],by rw [cnt,h.2];rfl⟩
 | x :: xs,y :: ys=>by
  rw [steps]
  by_cases hxy:x=y
  ·have h:=steps_app E xs ys
   rw [if_pos hxy]
   exact ⟨by rw [List.cons_append,app,h.1,hxy];rfl,by rw [cnt,h.2];rfl⟩
  ·rw [if_neg hxy]
   split
   ·have h:=steps_app E xs (y :: ys)
    exact ⟨by rw [List.cons_append,app,h.1],by rw [cnt,h.2];rfl⟩
   ·have h:=steps_app E (x :: xs) ys
    exact ⟨by rw [app,h.1];rfl,by rw [cnt,h.2]⟩
termination_by x y=>x.length+y.length
theorem lcs_nil (x:List ByteArray):lcsLen x []=0:=by cases x<;>simp [lcsLen]
theorem nil_lcs (y:List ByteArray):lcsLen [] y=0:=by simp [lcsLen]
theorem steps_chg:∀ x y:List ByteArray,chg (steps x y)+2 * lcsLen x y=x.length+y.length
 | [],[]=>by simp [steps,chg,lcsLen]
 | [],y :: ys=>by
  have h:=steps_chg [] ys
  rw [steps,chg,nil_lcs]
  rw [nil_lcs] at h
  simp at h ⊢
  omega
 | x :: xs,[]=>by
  have h:=steps_chg xs []
  rw [steps,chg,lcs_nil]
  rw [lcs_nil] at h
  simp at h ⊢
  omega
 | x :: xs,y :: ys=>by
  rw [steps,lcsLen]
  by_cases hxy:x=y
  ·have h:=steps_chg xs ys
   rw [if_pos hxy,if_pos hxy,chg]
   simp only [List.length_cons]
   omega
  ·rw [if_neg hxy,if_neg hxy]
   have h1:=steps_chg xs (y :: ys)
   have h2:=steps_chg (x :: xs) ys
   simp only [List.length_cons] at h1 h2 ⊢
   split
   ·rw [chg];omega
   ·rw [chg];omega
termination_by x y=>x.length+y.length
theorem commonE_le:∀ a b:List ByteArray,common a b≤a.length∧common a b≤b.length∧a.take (common a b)=b.take (common a b)
 | [],b=>by simp [common]
 | x :: xs,[]=>by simp [common]
 | x :: xs,y :: ys=>by
  rw [common]
  by_cases h:x=y
  ·have ih:=commonE_le xs ys
   rw [if_pos h]
   exact ⟨by simp;exact ih.1,by simp;exact ih.2.1,by rw [List.take_succ_cons,List.take_succ_cons,ih.2.2,h]⟩
  ·rw [if_neg h];simp
theorem between_split (a b:List ByteArray):∃ F x y E,a=F++(x++E)∧b=F++(y++E)∧between a b=midEdits (F.length:Int) x y:=by
 obtain ⟨h1,h2,h3⟩:=commonE_le a b
 generalize ha:a.drop (common a b)=a' 
 generalize hb:b.drop (common a b)=b'
 obtain ⟨g1,g2,g3⟩:=commonE_le a'.reverse b'.reverse
 rw [List.length_reverse] at g1 g2
 have hE:a'.drop (a'.length - common a'.reverse b'.reverse)=b'.drop (b'.length - common a'.reverse b'.reverse):=by
  apply List.reverse_inj.1
  rw [List.reverse_drop,List.reverse_drop,show a'.length - (a'.length - common a'.reverse b'.reverse)=common a'.reverse b'.reverse by omega,show b'.length - (b'.length - common a'.reverse b'.reverse)=common a'.reverse b'.reverse by omega]
  exact g3
 refine ⟨a.take (common a b),a'.take (a'.length - common a'.reverse b'.reverse),b'.take (b'.length - common a'.reverse b'.reverse),a'.drop (a'.length - common a'.reverse b'.reverse),?_,?_,?_⟩
 ·rw [List.take_append_drop,← ha,List.take_append_drop]
 ·rw [hE,List.take_append_drop,h3,← hb,List.take_append_drop]
 ·rw [between,midOf,endOf,frontOf,ha,hb,List.length_take,Nat.min_eq_left h1]
theorem playR_block (pre x y E:List ByteArray):playR (pre++(x++E)) 0 [⟨(pre.length:Int),(x.length:Int),y⟩]=pre++(y++E):=by
 simp only [playR]
 rw [show ((pre.length:Int) - 0).toNat=pre.length by omega,show ((pre.length:Int) - 0+(x.length:Int)).toNat=(pre++x).length by rw [List.length_append];omega,List.take_left,← List.append_assoc pre x,List.drop_left,List.append_assoc]
theorem mid_ok (F x y E:List ByteArray):okFrom 0 ((F++(x++E)).length:Int) (midEdits (F.length:Int) x y)=true∧playR (F++(x++E)) 0 (midEdits (F.length:Int) x y)=F++(y++E):=by
 rw [midEdits]
 by_cases c1:x=[]∧y=[]
 ·rw [if_pos c1]
  exact ⟨rfl,by rw [c1.1,c1.2];rfl⟩
 ·rw [if_neg c1]
  by_cases c2:x=[]∨y=[]∨65536<x.length * y.length
  ·rw [if_pos c2]
   refine ⟨?_,playR_block F x y E⟩
   simp only [okFrom,Bool.and_true,List.length_append]
   refine decide_eq_true ⟨by omega,by omega,by push_cast;omega,by push_cast;omega,fun h=>c1 ⟨List.eq_nil_of_length_eq_zero (by have:=h.1;omega),h.2⟩⟩
  ·rw [if_neg c2,(edits_edG _ _ []).1,List.nil_append]
   have hs:=steps_app E x y
   refine ⟨(ok_edG _ _ 0 _ (by rw [hs.2,List.length_append,List.length_append];push_cast;omega)).1 (by omega),?_⟩
   have h:=(play_edG (steps x y) F (x++E) 0 (by rw [hs.2,List.length_append];omega)).1
   rw [hs.1,Int.zero_add] at h
   exact h
theorem between_ok (a b:List ByteArray):okFrom 0 a.length (between a b)=true∧playFrom a 0 (between a b)=b:=by
 obtain ⟨F,x,y,E,rfl,rfl,e⟩:=between_split a b
 rw [e]
 have h:=mid_ok F x y E
 refine ⟨h.1,?_⟩
 rw [playFrom_R _ _ 0 0 (by omega) h.1,List.drop_zero]
 exact h.2
end Go.Proofs.YtamojbfmphainaaDoor.Pr
-- shrunk
/-
Longest common subsequences: what their lengths satisfy. Plain facts on lists.
-/
namespace Go.Proofs.YtamojbfmphainaaDoor.Pr
open List (Sublist)
theorem lcs_has:∀ x y:List ByteArray,∃ s:List ByteArray,s.Sublist x∧s.Sublist y∧s.length=lcsLen x y
 | [],y=>⟨[],List.nil_sublist _,List.nil_sublist _,by simp [lcsLen]⟩
 | x :: xs,[]=>⟨[],List.nil_sublist _,List.nil_sublist _,by simp [lcsLen]⟩
 | x :: xs,y :: ys=>by
  rw [lcsLen]
  by_cases h:x=y
  ·obtain ⟨s,h1,h2,h3⟩:=lcs_has xs ys
   rw [if_pos h]
   exact ⟨x :: s,h1.cons_cons x,by rw [h];exact h2.cons_cons y,by simp [h3]⟩
  ·rw [if_neg h]
   rcases Nat.le_total (lcsLen (x :: xs) ys) (lcsLen xs (y :: ys)) with hl|hl
   ·obtain ⟨s,h1,h2,h3⟩:=lcs_has xs (y :: ys)
    exact ⟨s,h1.cons x,h2,by rw [h3];omega⟩
   ·obtain ⟨s,h1,h2,h3⟩:=lcs_has (x :: xs) ys
    exact ⟨s,h1,h2.cons y,by rw [h3];omega⟩
termination_by x y=>x.length+y.length
theorem lcs_most:∀ (x y s:List ByteArray),s.Sublist x→s.Sublist y→s.length≤lcsLen x y
 | [],y,s,h1,h2=>by rw [List.sublist_nil.1 h1];simp
 | x :: xs,[],s,h1,h2=>by rw [List.sublist_nil.1 h2];simp
 | x :: xs,y :: ys,s,h1,h2=>by
  rw [lcsLen]
  by_cases h:x=y
  ·rw [if_pos h]
   match s with
   | []=>simp
   | z :: s' =>
    have g1:s'.Sublist xs:=by
     have:=List.Sublist.tail h1
     simpa using this
    have g2:s'.Sublist ys:=by
     have:=List.Sublist.tail h2
     simpa using this
    have:=lcs_most xs ys s' g1 g2
    simp only [List.length_cons]
    omega
  ·rw [if_neg h]
   cases h1 with
   | cons _ g1 =>
    have:=lcs_most xs (y :: ys) s g1 h2
    omega
   | cons_cons _ g1 =>
    cases h2 with
    | cons _ g2 =>
     have:=lcs_most (x :: xs) ys _ (g1.cons_cons x) g2
     omega
    | cons_cons _ g2=>exact absurd rfl h
termination_by x y=>x.length+y.length
theorem lcs_unique {x y:List ByteArray} {n:Nat} (h1:∃ s:List ByteArray,s.Sublist x∧s.Sublist y∧s.length=n) (h2:∀ s:List ByteArray,s.Sublist x→s.Sublist y→s.length≤n):lcsLen x y=n:=by
 obtain ⟨s,a1,a2,a3⟩:=h1
 obtain ⟨t,b1,b2,b3⟩:=lcs_has x y
 have:=lcs_most x y s a1 a2
 have:=h2 t b1 b2
 omega
theorem lcs_reverse (x y:List ByteArray):lcsLen x.reverse y.reverse=lcsLen x y:=by
 obtain ⟨t,b1,b2,b3⟩:=lcs_has x y
 refine lcs_unique ⟨t.reverse,b1.reverse,b2.reverse,by simpa using b3⟩ (fun s h1 h2=>?_)
 have:=lcs_most x y s.reverse (by have:=h1.reverse;simpa using this) (by have:=h2.reverse;simpa using this)
 simpa using this
theorem lcs_front:∀ (F x y:List ByteArray),lcsLen (F++x) (F++y)=F.length+lcsLen x y
 | [],x,y=>by simp
 | f :: F,x,y=>by rw [List.cons_append,List.cons_append,lcsLen,if_pos rfl,lcs_front F x y,List.length_cons];omega
theorem lcs_end (x y E:List ByteArray):lcsLen (x++E) (y++E)=lcsLen x y+E.length:=by
 rw [← lcs_reverse,List.reverse_append,List.reverse_append,lcs_front,lcs_reverse,List.length_reverse];omega
theorem between_size (a b:List ByteArray) (h:a.length * b.length≤65536):sizeE (between a b)+2 * (lcsLen a b:Int)=a.length+b.length:=by
 obtain ⟨F,x,y,E,rfl,rfl,e⟩:=between_split a b
 rw [e,lcs_front,lcs_end,midEdits]
 have hxy:x.length * y.length≤65536:=Nat.le_trans (Nat.mul_le_mul (by simp only [List.length_append];omega) (by simp only [List.length_append];omega)) h
 simp only [List.length_append]
 by_cases c1:x=[]∧y=[]
 ·rw [if_pos c1,c1.1,c1.2]
  simp [sizeE,lcsLen]
  omega
 ·rw [if_neg c1]
  by_cases c2:x=[]∨y=[]∨65536<x.length * y.length
  ·rw [if_pos c2]
   have h0:lcsLen x y=0:=by
    rcases c2 with c|c|c
    ·rw [c,nil_lcs]
    ·rw [c,lcs_nil]
    ·omega
   rw [h0]
   simp only [sizeE]
   push_cast
   omega
  ·rw [if_neg c2,(edits_edG _ _ []).1,List.nil_append,(size_edG _ _).1]
   have:=steps_chg x y
   push_cast
   omega
end Go.Proofs.YtamojbfmphainaaDoor.Pr
-- shrunk
/-
A list of edits of the call's own, of which the last one is changed: what is known of memory then.
-/
namespace Go.Proofs.YtamojbfmphainaaDoor.Pr
open Go.RowKit Go.Proofs.YtamojbfmphainaaDoorW.PrintWords Go.Proofs.YtamojbfmphainaaDoorW.PrintLast Go.Proofs.YtamojbfmphainaaDoorW.PrintMore
theorem edLast_eq (out:List Ed) (j:Int) (hj:j.toNat=out.length - 1):out.getD j.toNat z72=edLast out:=by rw [hj];rfl
theorem own_del {W:World} {base g cap:Nat} {out:List Ed} {j:Int} (hS:Kd.S k72 72 W base (fun _=>True) (.slice (some ⟨g,0,none⟩) out.length cap) out) (hne:out≠[]) (h0:0≤j) (hj:j.toNat=out.length - 1) :
  W.cell? ⟨g,j.toNat * 3+1,none⟩=some (.int .i64 (edLast out).f1)∧W.frozen? ⟨g,j.toNat * 3+1,none⟩=false ∧
   Kd.S k72 72 (W.setCell ⟨g,j.toNat * 3+1,none⟩ (.int .i64 ((edLast out).f1+1))) base (fun _=>True) (.slice (some ⟨g,0,none⟩) out.length cap) (addDel out) ∧
   W.grownBy (W.setCell ⟨g,j.toNat * 3+1,none⟩ (.int .i64 ((edLast out).f1+1))) (some g):=by
 have hl:0<out.length:=List.length_pos_iff.2 hne
 have h1:j<(out.length:Int):=by omega
 have hS':Kd.S k72 72 W base (fun k=>True∧¬ False) (.slice (some ⟨g,0,none⟩) out.length cap) out:=Kd.S_mono hS (fun _ _=>⟨trivial,id⟩)
 obtain ⟨oki,c,hcl,hM,hcc,hfr,hoki,hH⟩:=Kd.S_elem hS' z72 j h0 h1
 rw [edLast_eq out j hj] at hM
 obtain ⟨vi,rfl,hvi⟩:=k72_openM hM
 have hc1:=hcc 1 _ rfl
 obtain ⟨h2,h3⟩:=Kd.S_seg (okg:=fun _=>False) hH h0 h1 (seg:=[.int .i64 ((edLast out).f1+1)]) (j:=1) (show 1+1≤3 by decide) (x':=⟨(edLast out).f0,(edLast out).f1+1,(edLast out).f2⟩)
  (k72_mkM W base oki ⟨(edLast out).f0,(edLast out).f1+1,(edLast out).f2⟩ hvi) (fun k hk=>.inl hk) (fun k hk=>hk.elim)
 exact ⟨hc1,hfr 1,by unfold addDel;rw [← hj];exact Kd.S_mono h2 (fun _ _=>trivial),h3⟩
theorem own_ins {W:World} {base g cap:Nat} {out:List Ed} {j:Int} (s:ByteArray) (hS:Kd.S k72 72 W base (fun _=>True) (.slice (some ⟨g,0,none⟩) out.length cap) out) (hne:out≠[]) (h0:0≤j) (hj:j.toNat=out.length - 1) :
  ∃ (vi:Value) (Ai:Option Addr) (ci:Nat) (oki:Nat→Prop),vi=.slice Ai (edLast out).f2.length ci∧W.cell? ⟨g,j.toNat * 3+2,none⟩=some vi∧Kd.R Kd.string 9 W base oki vi (edLast out).f2∧(∀ k,W.heap.size≤k→oki k)∧(∀ k,vi.ownBlock=some k→k≠g) ∧
   ∀ (W2 w1:World) (v1:Value),Below W.heap.size W W2→W2.grownBy w1 vi.ownBlock→Kd.R Kd.string 9 w1 base oki v1 ((edLast out).f2++[s]) →
    w1.cell? ⟨g,j.toNat * 3+2,none⟩=some vi∧w1.frozen? ⟨g,j.toNat * 3+2,none⟩=false ∧
    Kd.S k72 72 (w1.setCell ⟨g,j.toNat * 3+2,none⟩ v1) base (fun _=>True) (.slice (some ⟨g,0,none⟩) out.length cap) (addIns s out)∧w1.grownBy (w1.setCell ⟨g,j.toNat * 3+2,none⟩ v1) (some g)∧(∃ cells,w1.heap[g]?=some (.cells cells 72 (0,0))):=by
 have hl:0<out.length:=List.length_pos_iff.2 hne
 have h1:j<(out.length:Int):=by omega
 obtain ⟨oki,c,hcl,hM,hcc,hfr,hoki,hH⟩:=Kd.S_elem hS z72 j h0 h1
 rw [edLast_eq out j hj] at hM
 obtain ⟨vi,rfl,hvi⟩:=k72_openM hM
 have hc2:=hcc 2 _ rfl
 obtain ⟨g',cap',e',_,hlt,cells0,hg0⟩:=Kd.S_form hS hl
 have hgg:g'=g:=by injection e' with e' _ _;injection e' with e';injection e' with e';exact e'.symm
 subst hgg
 have hH2:=Kd.H_widen hH
 have hvi2:Kd.R Kd.string 9 W base (fun k=>oki k∨True∧W.heap.size≤k) vi (edLast out).f2:=Kd.R_mono hvi (fun k hk=>.inl hk)
 obtain ⟨Ai,ci,evi⟩:=Kd.R_slice hvi
 refine ⟨vi,Ai,ci,fun k=>oki k∨True∧W.heap.size≤k,evi,hc2,hvi2,fun k hk=>.inr ⟨trivial,hk⟩,fun k hk=>(hoki k (hvi.1 k hk)).2,fun W2 w1 v1 hb hg hR=>?_⟩
 have hne2:∀ k,vi.ownBlock=some k→k≠g':=fun k hk=>(hoki k (hvi.1 k hk)).2
 have hgb:¬ vi.ownBlock=some g':=fun h=>hne2 _ h rfl
 have hlt2:g'<W2.heap.size:=Nat.lt_of_lt_of_le hlt hb.size
 have hcell:w1.heap[g']?=W.heap[g']?:=(hg.block g' hlt2 (fun e=>hgb e.symm)).trans (hb.block g' hlt)
 have hH3:=Kd.H_grown (Kd.H_below hH2 hb) hg (fun k hk=>.inl (hvi.1 k hk))
 obtain ⟨h4,h5⟩:=Kd.H_seg hH3 h0 h1 (seg:=[v1]) (j:=2) (show 2+1≤3 by decide) (by intro q hq;simp at hq;subst hq;exact (Kd.R_val hR).2)
 have hokne:∀ k,(oki k∨True∧W.heap.size≤k)→k≠g':=by
  rintro k (hk|hk)
  ·exact (hoki k hk).2
  ·omega
 refine ⟨by rw [← hc2];exact World.cell?_of_block hcell,by rw [← hfr 2];exact World.frozen?_of_block hcell,?_,h5,⟨cells0,hcell.trans hg0⟩⟩
 unfold addIns
 rw [← hj]
 refine Kd.H_back h4 (okp:=fun k=>oki k∨True∧W.heap.size≤k) ?_ (fun _ hk=>hk)
 exact k72_mkM _ base _ ⟨(edLast out).f0,(edLast out).f1,(edLast out).f2++[s]⟩ (Kd.R_far hR (p:=⟨g',j.toNat * 3+2,none⟩) hokne v1)
end Go.Proofs.YtamojbfmphainaaDoor.Pr
-- shrunk
