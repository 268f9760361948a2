/-
Several plain texts in one.
-/
import Derived.Test.YtamojbfmphainaaDoorK4
import Derived.Test.YtamojbfmphainaaDoorK1
import Derived.Lib.OthersKept
import Derived.Lib.FrozenHead2
import Derived.Test.YtamojbfmphainaaDoorK2
import Derived.Test.YtamojbfmphainaaDoorK0
import Derived.Outline
import Derived.Test.YtamojbfmphainaaDoorK3
import Derived.Lib.ItoaMem
set_option linter.unusedVariables false
set_option linter.unusedSimpArgs false
/-
What is between two lists: it is right, played it is the other one; its size: plain facts on lists.
-/
namespace Go.Proofs.YtamojbfmphainaaDoor.Pr
def edG:Option Ed→Int→List Step→List Ed
 | none,_,[]=>[]
 | some e,_,[]=>[e]
 | none,t,.keep :: r=>edG none (t+1) r
 | some e,t,.keep :: r=>e :: edG none (t+1) r
 | none,t,.del :: r=>edG (some ⟨t,1,[]⟩) (t+1) r
 | some e,t,.del :: r=>edG (some ⟨e.f0,e.f1+1,e.f2⟩) (t+1) r
 | none,t,.ins s :: r=>edG (some ⟨t,0,[s]⟩) t r
 | some e,t,.ins s :: r=>edG (some ⟨e.f0,e.f1,e.f2++[s]⟩) t r
theorem edLast_snoc (out:List Ed) (e:Ed):edLast (out++[e])=e:=by simp [edLast]
theorem addDel_snoc (out:List Ed) (e:Ed):addDel (out++[e])=out++[⟨e.f0,e.f1+1,e.f2⟩]:=by
 rw [addDel,edLast_snoc]
 simp
theorem addIns_snoc (s:ByteArray) (out:List Ed) (e:Ed):addIns s (out++[e])=out++[⟨e.f0,e.f1,e.f2++[s]⟩]:=by
 rw [addIns,edLast_snoc]
 simp
theorem edits_edG:∀ (r:List Step) (t:Int) (out:List Ed),edits t false out r=out++edG none t r∧∀ e,edits t true (out++[e]) r=out++edG (some e) t r
 | [],t,out=>⟨by simp [edits,edG],fun e=>by simp [edits,edG]⟩
 | .keep :: r,t,out=>⟨by rw [edits,edG];exact (edits_edG r (t+1) out).1,fun e=>by rw [edits,edG,(edits_edG r (t+1) (out++[e])).1];simp⟩
 | .del :: r,t,out=>⟨by
   rw [edits,edG,opened,if_neg (by simp),addDel_snoc]
   exact (edits_edG r (t+1) out).2 _,fun e=>by
   rw [edits,edG,opened,if_pos rfl,addDel_snoc]
   exact (edits_edG r (t+1) out).2 _⟩
 | .ins s :: r,t,out=>⟨by
   rw [edits,edG,opened,if_neg (by simp),addIns_snoc]
   exact (edits_edG r t out).2 _,fun e=>by
   rw [edits,edG,opened,if_pos rfl,addIns_snoc]
   exact (edits_edG r t out).2 _⟩
def app:List Step→List ByteArray→List ByteArray
 | [],s=>s
 | .keep :: r,x :: s=>x :: app r s
 | .keep :: r,[]=>app r []
 | .del :: r,_ :: s=>app r s
 | .del :: r,[]=>app r []
 | .ins y :: r,s=>y :: app r s
def cnt:List Step→Nat
 | []=>0
 | .keep :: r=>cnt r+1
 | .del :: r=>cnt r+1
 | .ins _ :: r=>cnt r
def chg:List Step→Nat
 | []=>0
 | .keep :: r=>chg r
 | .del :: r=>chg r+1
 | .ins _ :: r=>chg r+1
theorem play_edG:∀ (r:List Step) (pre s:List ByteArray) (t:Int),cnt r≤s.length →
  playR (pre++s) t (edG none (t+pre.length) r)=pre++app r s ∧
  ∀ (e:Ed) (D:List ByteArray),e.f0=t+pre.length→e.f1=D.length→playR (pre++D++s) t (edG (some e) (t+pre.length+D.length) r)=pre++e.f2++app r s
 | [],pre,s,t,h=>⟨by simp [edG,playR,app],fun e D h0 h1=>by
   simp only [edG,playR,app]
   rw [show (e.f0 - t).toNat=pre.length by omega,show (e.f0 - t+e.f1).toNat=(pre++D).length by rw [List.length_append];omega,List.drop_left,List.append_assoc pre D s,List.take_left]⟩
 | .keep :: r,pre,[],t,h=>by simp [cnt] at h
 | .keep :: r,pre,x :: s,t,h=>by
  have hc:cnt r≤s.length:=by simp [cnt] at h;exact h
  refine ⟨?_,fun e D h0 h1=>?_⟩
  ·have h2:=(play_edG r (pre++[x]) s t hc).1
   rw [List.length_append,List.length_singleton] at h2
   rw [edG,app,show t+(pre.length:Int)+1=t+((pre.length+1:Nat):Int) by omega]
   simpa using h2
  ·rw [edG,app]
   simp only [playR]
   have h2:=(play_edG r [x] s (e.f0+e.f1) hc).1
   rw [show (e.f0 - t).toNat=pre.length by omega,show (e.f0 - t+e.f1).toNat=(pre++D).length by rw [List.length_append];omega,List.drop_left,List.append_assoc pre D,List.take_left]
   rw [show t+(pre.length:Int)+(D.length:Int)+1=e.f0+e.f1+(([x]:List ByteArray).length:Int) by simp;omega]
   have h3:playR (x :: s) (e.f0+e.f1) (edG none (e.f0+e.f1+(([x]:List ByteArray).length:Int)) r)=x :: app r s:=by simpa using h2
   rw [h3]
 | .del :: r,pre,[],t,h=>by simp [cnt] at h
 | .del :: r,pre,x :: s,t,h=>by
  have hc:cnt r≤s.length:=by simp [cnt] at h;exact h
  refine ⟨?_,fun e D h0 h1=>?_⟩
  ·have h2:=(play_edG r pre s t hc).2 ⟨t+pre.length,1,[]⟩ [x] rfl (by simp)
   rw [edG,app]
   simpa using h2
  ·have h2:=(play_edG r pre s t hc).2 ⟨e.f0,e.f1+1,e.f2⟩ (D++[x]) h0 (by simp [h1])
   rw [edG,app]
   rw [List.length_append,List.length_singleton] at h2
   rw [show t+(pre.length:Int)+(D.length:Int)+1=t+(pre.length:Int)+((D.length+1:Nat):Int) by omega]
   simpa using h2
 | .ins y :: r,pre,s,t,h=>by
  have hc:cnt r≤s.length:=by simpa [cnt] using h
  refine ⟨?_,fun e D h0 h1=>?_⟩
  ·have h2:=(play_edG r pre s t hc).2 ⟨t+pre.length,0,[y]⟩ [] rfl (by simp)
   rw [edG,app]
   simpa using h2
  ·have h2:=(play_edG r pre s t hc).2 ⟨e.f0,e.f1,e.f2++[y]⟩ D h0 h1
   rw [edG,app]
   simpa using h2
theorem ok_edG (many:Int):∀ (r:List Step) (fr t:Int),t+cnt r≤many →
  (fr≤t→okFrom fr many (edG none t r)=true)∧∀ e:Ed,fr≤e.f0→0≤e.f1→¬ (e.f1=0∧e.f2=[])→e.f0+e.f1=t→okFrom fr many (edG (some e) t r)=true
 | [],fr,t,h=>⟨fun _=>rfl,fun e h0 h1 h2 h3=>by
   simp only [cnt] at h
   simp only [edG,okFrom,Bool.and_true]
   exact decide_eq_true ⟨h0,h1,by omega,by omega,h2⟩⟩
 | .keep :: r,fr,t,h=>⟨fun hf=>by
   simp only [cnt] at h
   rw [edG]
   exact (ok_edG many r fr (t+1) (by push_cast at h;omega)).1 (by omega),fun e h0 h1 h2 h3=>by
   simp only [cnt] at h
   simp only [edG,okFrom]
   rw [decide_eq_true ⟨h0,h1,by push_cast at h;omega,by push_cast at h;omega,h2⟩,Bool.true_and]
   exact (ok_edG many r _ (t+1) (by push_cast at h;omega)).1 (by omega)⟩
 | .del :: r,fr,t,h=>⟨fun hf=>by
   simp only [cnt] at h
   rw [edG]
   exact (ok_edG many r fr (t+1) (by push_cast at h;omega)).2 ⟨t,1,[]⟩ hf (by simp) (by simp) rfl,fun e h0 h1 h2 h3=>by
   simp only [cnt] at h
   rw [edG]
   exact (ok_edG many r fr (t+1) (by push_cast at h;omega)).2 ⟨e.f0,e.f1+1,e.f2⟩ h0 (by show 0≤e.f1+1;omega) (fun hh=>by have:e.f1+1=0:=hh.1;omega) (by show e.f0+(e.f1+1)=t+1;omega)⟩
 | .ins y :: r,fr,t,h=>⟨fun hf=>by
   simp only [cnt] at h
   rw [edG]
   exact (ok_edG many r fr t h).2 ⟨t,0,[y]⟩ hf (by simp) (by simp) (by simp),fun e h0 h1 h2 h3=>by
   simp only [cnt] at h
   rw [edG]
   exact (ok_edG many r fr t h).2 ⟨e.f0,e.f1,e.f2++[y]⟩ h0 h1 (by simp) h3⟩
theorem size_edG:∀ (r:List Step) (t:Int),sizeE (edG none t r)=chg r∧∀ e:Ed,0≤e.f1→sizeE (edG (some e) t r)=e.f1+e.f2.length+chg r
 | [],t=>⟨by simp [edG,sizeE,chg],fun e h=>by simp only [edG,sizeE,chg];omega⟩
 | .keep :: r,t=>⟨by rw [edG,chg];exact (size_edG r _).1,fun e h=>by rw [edG,chg,sizeE,(size_edG r _).1];omega⟩
 | .del :: r,t=>⟨by rw [edG,chg,(size_edG r _).2 _ (by simp)];simp;omega,fun e h=>by rw [edG,chg,(size_edG r _).2 _ (by show 0≤e.f1+1;omega)];push_cast;omega⟩
 | .ins y :: r,t=>⟨by rw [edG,chg,(size_edG r _).2 _ (by simp)];simp;omega,fun e h=>by rw [edG,chg,(size_edG r _).2 ⟨e.f0,e.f1,e.f2++[y]⟩ h];simp;omega⟩
theorem steps_app (E:List ByteArray):∀ x y:List ByteArray,app (steps x y) (x++E)=y++E∧cnt (steps x y)=x.length
 | [],[]=>⟨by simp [steps,app],by simp [steps,cnt]⟩
 | [],y :: ys=>by
  have h:=steps_app E [] ys
  rw [steps]
  exact ⟨by rw [app,h.1];rfl,by rw [cnt,h.2]⟩
 | x :: xs,[]=>by
  have h:=steps_app E xs []
  rw [steps]
  exact ⟨by rw [List.cons_append,app,h.1],by rw [cnt,h.2];rfl⟩
 | x :: xs,y :: ys=>by
  rw [steps]
  by_cases hxy:x=y
  ·have h:=steps_app E xs ys
   rw [if_pos hxy]
   exact ⟨by rw [List.cons_append,app,h.1,hxy];rfl,by rw [cnt,h.2];rfl⟩
  ·rw [if_neg hxy]
   split
   ·have h:=steps_app E xs (y :: ys)
    exact ⟨by rw [List.cons_append,app,h.1],by rw [cnt,h.2];rfl⟩
   ·have h:=steps_app E (x :: xs) ys
    exact ⟨by rw [app,h.1];rfl,by rw [cnt,h.2]⟩
termination_by x y=>x.length+y.length
theorem lcs_nil (x:List ByteArray):lcsLen x []=0:=by cases x<;>simp [lcsLen]
theorem nil_lcs (y:List ByteArray):lcsLen [] y=0:=by simp [lcsLen]
theorem steps_chg:∀ x y:List ByteArray,chg (steps x y)+2 * lcsLen x y=x.length+y.length
 | [],[]=>by simp [steps,chg,lcsLen]
 | [],y :: ys=>by
  have h:=steps_chg [] ys
  rw [steps,chg,nil_lcs]
  rw [nil_lcs] at h
  simp at h ⊢
  omega
 | x :: xs,[]=>by
  have h:=steps_chg xs []
  rw [steps,chg,lcs_nil]
  rw [lcs_nil] at h
  simp at h ⊢
  omega
 | x :: xs,y :: ys=>by
  rw [steps,lcsLen]
  by_cases hxy:x=y
  ·have h:=steps_chg xs ys
   rw [if_pos hxy,if_pos hxy,chg]
   simp only [List.length_cons]
   omega
  ·rw [if_neg hxy,if_neg hxy]
   have h1:=steps_chg xs (y :: ys)
   have h2:=steps_chg (x :: xs) ys
   simp only [List.length_cons] at h1 h2 ⊢
   split
   ·rw [chg];omega
   ·rw [chg];omega
termination_by x y=>x.length+y.length
theorem commonE_le:∀ a b:List ByteArray,common a b≤a.length∧common a b≤b.length∧a.take (common a b)=b.take (common a b)
 | [],b=>by simp [common]
 | x :: xs,[]=>by simp [common]
 | x :: xs,y :: ys=>by
  rw [common]
  by_cases h:x=y
  ·have ih:=commonE_le xs ys
   rw [if_pos h]
   exact ⟨by simp;exact ih.1,by simp;exact ih.2.1,by rw [List.take_succ_cons,List.take_succ_cons,ih.2.2,h]⟩
  ·rw [if_neg h];simp
theorem between_split (a b:List ByteArray):∃ F x y E,a=F++(x++E)∧b=F++(y++E)∧between a b=midEdits (F.length:Int) x y:=by
 obtain ⟨h1,h2,h3⟩:=commonE_le a b
 generalize ha:a.drop (common a b)=a' 
 generalize hb:b.drop (common a b)=b'
 obtain ⟨g1,g2,g3⟩:=commonE_le a'.reverse b'.reverse
 rw [List.length_reverse] at g1 g2
 have hE:a'.drop (a'.length - common a'.reverse b'.reverse)=b'.drop (b'.length - common a'.reverse b'.reverse):=by
  apply List.reverse_inj.1
  rw [List.reverse_drop,List.reverse_drop,show a'.length - (a'.length - common a'.reverse b'.reverse)=common a'.reverse b'.reverse by omega,show b'.length - (b'.length - common a'.reverse b'.reverse)=common a'.reverse b'.reverse by omega]
  exact g3
 refine ⟨a.take (common a b),a'.take (a'.length - common a'.reverse b'.reverse),b'.take (b'.length - common a'.reverse b'.reverse),a'.drop (a'.length - common a'.reverse b'.reverse),?_,?_,?_⟩
 ·rw [List.take_append_drop,← ha,List.take_append_drop]
 ·rw [hE,List.take_append_drop,h3,← hb,List.take_append_drop]
 ·rw [between,midOf,endOf,frontOf,ha,hb,List.length_take,Nat.min_eq_left h1]
theorem playR_block (pre x y E:List ByteArray):playR (pre++(x++E)) 0 [⟨(pre.length:Int),(x.length:Int),y⟩]=pre++(y++E):=by
 simp only [playR]
 rw [show ((pre.length:Int) - 0).toNat=pre.length by omega,show ((pre.length:Int) - 0+(x.length:Int)).toNat=(pre++x).length by rw [List.length_append];omega,List.take_left,← List.append_assoc pre x,List.drop_left,List.append_assoc]
theorem mid_ok (F x y E:List ByteArray):okFrom 0 ((F++(x++E)).length:Int) (midEdits (F.length:Int) x y)=true∧playR (F++(x++E)) 0 (midEdits (F.length:Int) x y)=F++(y++E):=by
 rw [midEdits]
 by_cases c1:x=[]∧y=[]
 ·rw [if_pos c1]
  exact ⟨rfl,by rw [c1.1,c1.2];rfl⟩
 ·rw [if_neg c1]
  by_cases c2:x=[]∨y=[]∨65536<x.length * y.length
  ·rw [if_pos c2]
   refine ⟨?_,playR_block F x y E⟩
   simp only [okFrom,Bool.and_true,List.length_append]
   refine decide_eq_true ⟨by omega,by omega,by push_cast;omega,by push_cast;omega,fun h=>c1 ⟨List.eq_nil_of_length_eq_zero (by have:=h.1;omega),h.2⟩⟩
  ·rw [if_neg c2,(edits_edG _ _ []).1,List.nil_append]
   have hs:=steps_app E x y
   refine ⟨(ok_edG _ _ 0 _ (by rw [hs.2,List.length_append,List.length_append];push_cast;omega)).1 (by omega),?_⟩
   have h:=(play_edG (steps x y) F (x++E) 0 (by rw [hs.2,List.length_append];omega)).1
   rw [hs.1,Int.zero_add] at h
   exact h
theorem between_ok (a b:List ByteArray):okFrom 0 a.length (between a b)=true∧playFrom a 0 (between a b)=b:=by
 obtain ⟨F,x,y,E,rfl,rfl,e⟩:=between_split a b
 rw [e]
 have h:=mid_ok F x y E
 refine ⟨h.1,?_⟩
 rw [playFrom_R _ _ 0 0 (by omega) h.1,List.drop_zero]
 exact h.2
end Go.Proofs.YtamojbfmphainaaDoor.Pr
-- shrunk
/-
Longest common subsequences: what their lengths satisfy. Plain facts on lists.
-/
namespace Go.Proofs.YtamojbfmphainaaDoor.Pr
open List (Sublist)
theorem lcs_has:∀ x y:List ByteArray,∃ s:List ByteArray,s.Sublist x∧s.Sublist y∧s.length=lcsLen x y
 | [],y=>⟨[],List.nil_sublist _,List.nil_sublist _,by simp [lcsLen]⟩
 | x :: xs,[]=>⟨[],List.nil_sublist _,List.nil_sublist _,by simp [lcsLen]⟩
 | x :: xs,y :: ys=>by
  rw [lcsLen]
  by_cases h:x=y
  ·obtain ⟨s,h1,h2,h3⟩:=lcs_has xs ys
   rw [if_pos h]
   exact ⟨x :: s,h1.cons_cons x,by rw [h];exact h2.cons_cons y,by simp [h3]⟩
  ·rw [if_neg h]
   rcases Nat.le_total (lcsLen (x :: xs) ys) (lcsLen xs (y :: ys)) with hl|hl
   ·obtain ⟨s,h1,h2,h3⟩:=lcs_has xs (y :: ys)
    exact ⟨s,h1.cons x,h2,by rw [h3];omega⟩
   ·obtain ⟨s,h1,h2,h3⟩:=lcs_has (x :: xs) ys
    exact ⟨s,h1,h2.cons y,by rw [h3];omega⟩
termination_by x y=>x.length+y.length
theorem lcs_most:∀ (x y s:List ByteArray),s.Sublist x→s.Sublist y→s.length≤lcsLen x y
 | [],y,s,h1,h2=>by rw [List.sublist_nil.1 h1];simp
 | x :: xs,[],s,h1,h2=>by rw [List.sublist_nil.1 h2];simp
 | x :: xs,y :: ys,s,h1,h2=>by
  rw [lcsLen]
  by_cases h:x=y
  ·rw [if_pos h]
   match s with
   | []=>simp
   | z :: s' =>
    have g1:s'.Sublist xs:=by
     have:=List.Sublist.tail h1
     simpa using this
    have g2:s'.Sublist ys:=by
     have:=List.Sublist.tail h2
     simpa using this
    have:=lcs_most xs ys s' g1 g2
    simp only [List.length_cons]
    omega
  ·rw [if_neg h]
   cases h1 with
   | cons _ g1 =>
    have:=lcs_most xs (y :: ys) s g1 h2
    omega
   | cons_cons _ g1 =>
    cases h2 with
    | cons _ g2 =>
     have:=lcs_most (x :: xs) ys _ (g1.cons_cons x) g2
     omega
    | cons_cons _ g2=>exact absurd rfl h
termination_by x y=>x.length+y.length
theorem lcs_unique {x y:List ByteArray} {n:Nat} (h1:∃ s:List ByteArray,s.Sublist x∧s.Sublist y∧s.length=n) (h2:∀ s:List ByteArray,s.Sublist x→s.Sublist y→s.length≤n):lcsLen x y=n:=by
 obtain ⟨s,a1,a2,a3⟩:=h1
 obtain ⟨t,b1,b2,b3⟩:=lcs_has x y
 have:=lcs_most x y s a1 a2
 have:=h2 t b1 b2
 omega
theorem lcs_reverse (x y:List ByteArray):lcsLen x.reverse y.reverse=lcsLen x y:=by
 obtain ⟨t,b1,b2,b3⟩:=lcs_has x y
 refine lcs_unique ⟨t.reverse,b1.reverse,b2.reverse,by simpa using b3⟩ (fun s h1 h2=>?_)
 have:=lcs_most x y s.reverse (by have:=h1.reverse;simpa using this) (by have:=h2.reverse;simpa using this)
 simpa using this
theorem lcs_front:∀ (F x y:List ByteArray),lcsLen (F++x) (F++y)=F.length+lcsLen x y
 | [],x,y=>by simp
 | f :: F,x,y=>by rw [List.cons_append,List.cons_append,lcsLen,if_pos rfl,lcs_front F x y,List.length_cons];omega
theorem lcs_end (x y E:List ByteArray):lcsLen (x++E) (y++E)=lcsLen x y+E.length:=by
 rw [← lcs_reverse,List.reverse_append,List.reverse_append,lcs_front,lcs_reverse,List.length_reverse];omega
theorem between_size (a b:List ByteArray) (h:a.length * b.length≤65536):sizeE (between a b)+2 * (lcsLen a b:Int)=a.length+b.length:=by
 obtain ⟨F,x,y,E,rfl,rfl,e⟩:=between_split a b
 rw [e,lcs_front,lcs_end,midEdits]
 have hxy:x.length * y.length≤65536:=Nat.le_trans (Nat.mul_le_mul (by simp only [List.length_append];omega) (by simp only [List.length_append];omega)) h
 simp only [List.length_append]
 by_cases c1:x=[]∧y=[]
 ·rw [if_pos c1,c1.1,c1.2]
  simp [sizeE,lcsLen]
  omega
 ·rw [if_neg c1]
  by_cases c2:x=[]∨y=[]∨65536<x.length * y.length
  ·rw [if_pos c2]
   have h0:lcsLen x y=0:=by
    rcases c2 with c|c|c
    ·rw [c,nil_lcs]
    ·rw [c,lcs_nil]
    ·omega
   rw [h0]
   simp only [sizeE]
   push_cast
   omega
  ·rw [if_neg c2,(edits_edG _ _ []).1,List.nil_append,(size_edG _ _).1]
   have:=steps_chg x y
   push_cast
   omega
end Go.Proofs.YtamojbfmphainaaDoor.Pr
-- shrunk
/-
What the laws of layer 5 have in common: the example, what is between two lists.
-/
namespace Go.Proofs.YtamojbfmphainaaDoor.Pr
open Go.RowKit Go.Proofs.YtamojbfmphainaaDoorW.PrintWords Go.Proofs.YtamojbfmphainaaDoorW.PrintLast Go.Proofs.YtamojbfmphainaaDoorW.PrintMore
theorem len_le_size:∀ (l:List Ed) (fr many:Int),okFrom fr many l=true→(l.length:Int)≤sizeE l
 | [],fr,many,h=>by simp [sizeE]
 | e :: l,fr,many,h=>by
  obtain ⟨c1,c2,c3,c4,c5,h'⟩:=okFrom_cons h
  have ih:=len_le_size l _ _ h'
  simp only [sizeE,List.length_cons]
  have:e.f1=0→e.f2.length≠0:=fun h0 h1=>c5 ⟨h0,List.eq_nil_of_length_eq_zero h1⟩
  push_cast
  omega
theorem Diff_some (a b:List ByteArray) (h1:a.length≤4096) (h2:b.length≤4096):diff_Diff.f a b=some (between a b):=by
 rw [diff_Diff.f,if_pos (by omega)]
theorem play_mem (a:List ByteArray):∀ (l:List Ed) (t:Nat) (e:Ed) (s:ByteArray),e ∈ l→s ∈ e.f2→s ∈ playFrom a t l
 | x :: l,t,e,s,he,hs=>by
  simp only [playFrom,List.mem_append]
  rcases List.mem_cons.1 he with rfl|he
  ·exact Or.inl (Or.inr hs)
  ·exact Or.inr (play_mem a l _ e s he hs)
theorem breaks_most (ar:Int):∀ (l:List Ed) (p:Ed),breaks ar p l≤l.length
 | [],p=>Nat.le_refl _
 | e :: l,p=>by have:=breaks_most ar l e;rw [breaks,List.length_cons];split<;>omega
theorem makeH_most (a:List ByteArray) (ar:Int) (l:List Ed):(makeH a ar 0 l).length≤l.length:=by
 rw [makeH_len a _ _ l 0 (Nat.le_refl _)]
 cases l with
 | nil=>exact Nat.le_refl _
 | cons p l=>have:=breaks_most ar l p;show 1+_≤_;rw [List.length_cons];omega
structure LawB (a b:List ByteArray):Prop where
 ok:okFrom 0 a.length (between a b)=true
 pl:playFrom a 0 (between a b)=b
 len:(between a b).length≤80
 ins:insE (between a b)≤80
 sz:0≤sizeE (between a b)∧sizeE (between a b)≤80
 o40:Ok40 (between a b)
 str:∀ e ∈ between a b,∀ s ∈ e.f2,s.size≤4611686018427387904
end Go.Proofs.YtamojbfmphainaaDoor.Pr
-- shrunk
/-
strings.Builder's copyCheck and WriteString, walked (this translation's copyCheck ends its other way in a refusal, so the kit's contract does not fit it).
-/
namespace Go.Proofs.YtamojbfmphainaaDoor.Pr
open Go.RowKit Go.Shelf Go.Proofs.YtamojbfmphainaaDoorW.PrintWords Go.Proofs.YtamojbfmphainaaDoorW.PrintLast Go.Proofs.YtamojbfmphainaaDoorW.PrintMore
set_option maxRecDepth 100000 in
set_option maxHeartbeats 1000000 in
theorem copyCheck_used (b:Nat) (w:World) (h0:w.cell? ⟨b,0,none⟩=some (.pointer (some ⟨b,0,none⟩))) :
  Calls Tryd.prog 54 #[.pointer (some ⟨b,0,none⟩)] w fun e w'=>e=.returned (.tuple #[])∧w'=w:=by
 have X:=Tryd.Builder_Extra_169
 obtain ⟨j,hj,_⟩:=Option.map_eq_some_iff.1 X.sizeBuilder
 go_enter Tryd.func54,Tryd.ntmps54
 go_wp2
 rw [Lib.run_neq_ptr_same w _ Tryd.underlying44 hj]
 go_wp2
 go_end0
 exact ⟨rfl,rfl⟩
set_option maxRecDepth 100000 in
set_option maxHeartbeats 1000000 in
theorem copyCheck_fresh (b:Nat) (w:World) (h0:w.cell? ⟨b,0,none⟩=some (.pointer none)) (hsh:w.shape? b=some (47,2)) (hfz:w.frozen? ⟨b,0,none⟩=false) :
  Calls Tryd.prog 54 #[.pointer (some ⟨b,0,none⟩)] w fun e w'=>e=.returned (.tuple #[])∧w'=w.setCell ⟨b,0,none⟩ (.pointer (some ⟨b,0,none⟩)):=by
 have X:=Tryd.Builder_Extra_169
 obtain ⟨j,hj,hjs⟩:=Option.map_eq_some_iff.1 X.sizeBuilder
 go_enter Tryd.func54,Tryd.ntmps54
 go_wp2
 rw [Lib.run_to_unsafe w ⟨b,0,none⟩ Tryd.underlying44 Tryd.underlying96 hj (by rw [hjs];decide) hsh (Nat.zero_lt_succ 1)]
 simp only [Result.andThen]
 rw [Oper.upon_value]
 go_wp2
 rw [run_callFunc_extern Tryd.func72 (by kernel_rfl) (by kernel_rfl) (by kernel_rfl) (e:=Extern.AbiNoEscape.same) (by kernel_rfl)]
 rw [Lib.run_noEscape]
 simp only [Result.andThen]
 rw [Oper.upon_value]
 go_wp2
 rw [Lib.run_from_unsafe w ⟨b,0,none⟩ Tryd.underlying96 Tryd.underlying44 hj hsh X.liesBuilder]
 simp only [Result.andThen]
 rw [Oper.upon_value]
 go_wp2
 go_end0
 exact ⟨rfl,rfl⟩
theorem bld_copyCheck (B b:Nat) (bs:List Value) (w:World) (h:Lib.IsBuilderF 47 5 B b bs w) :
  Calls Tryd.prog 54 #[.pointer (some ⟨b,0,none⟩)] w fun e w'=>e=.returned (.tuple #[])∧(Lib.BuilderAtF 47 5 B b (.pointer (some ⟨b,0,none⟩)) bs w'∧Below B w w'∧Lib.OthersKept 5 (some b) w w'):=by
 rcases h with h|h
 ·refine (copyCheck_fresh b w h.cell0 h.shape h.frozen0).mono ?_
  rintro e w' ⟨rfl,rfl⟩
  exact ⟨rfl,h.used _,(Below.refl B w).setCell (p:=⟨b,0,none⟩) h.1 _,(Lib.OthersKept.refl _ _ w).setCell ⟨b,0,none⟩ rfl _⟩
 ·refine (copyCheck_used b w h.cell0).mono ?_
  rintro e w' ⟨rfl,rfl⟩
  exact ⟨rfl,h,Below.refl B _,Lib.OthersKept.refl _ _ _⟩
set_option maxHeartbeats 2000000 in
set_option maxRecDepth 100000 in
theorem bld_write (B b:Nat) (bs:List Value) (s:ByteArray) (w:World) (h:Lib.IsBuilderF 47 5 B b bs w) (hlen:bs.length+s.size≤140737488355328) (hBw:B≤w.heap.size) :
  Calls Tryd.prog 23 #[.pointer (some ⟨b,0,none⟩),.string s] w fun e w'=>e=.returned (.tuple #[.int .i64 s.size,.nilIface])∧(Lib.IsBuilderF 47 5 B b (bs++Lib.strCells s) w'∧Below B w w'∧Lib.OthersKept 5 (some b) w w'):=by
 have X:=Tryd.Builder_Extra_169
 obtain ⟨i0,hi,hz0,hz1,hz2⟩:=info_parts X.infoByte
 go_enter Tryd.func23,Tryd.ntmps23
 go_wp2_with (go_at_call 54;refine (bld_copyCheck B b bs _ h).mono ?_)
 rintro e w1 ⟨rfl,h1,hb1,hk1⟩
 obtain ⟨hB,v,hbk,hown,hne⟩:=h1
 have c0:w1.cell? ⟨b,0,none⟩=some (.pointer (some ⟨b,0,none⟩)):=by rw [Lib.cell_of_heap hbk];rfl
 have c1:w1.cell? ⟨b,1,none⟩=some v:=by rw [Lib.cell_of_heap hbk];rfl
 go_wp2_with (at_builtin;refine Lib.wpList_append_own_stringF _ rfl _ _ 45 9 rfl B 5 i0 Tryd.underlying45 Tryd.underlying9 hi hz0 hz1 hz2 _ _ _ rfl hown s rfl ?c3 ?c4 ?c5 ?_)
 case c3=>unfold maxLen;omega
 case c4=>omega
 case c5=>have:=hb1.size;omega
 intro v' w2 hown' hgrow _
 have hlt:b<w1.heap.size:=by
  rcases Nat.lt_or_ge b w1.heap.size with h'|h'
  ·exact h'
  ·simp [Array.getElem?_eq_none h'] at hbk
 have hb2:w2.heap[b]?=some (.cells #[.pointer (some ⟨b,0,none⟩),v] 47 (0,0)):=by
  rw [hgrow.block b hlt (fun e=>hne e.symm)]
  exact hbk
 have d0:w2.cell? ⟨b,0,none⟩=some (.pointer (some ⟨b,0,none⟩)):=by rw [Lib.cell_of_heap hb2];rfl
 have d1:w2.cell? ⟨b,1,none⟩=some v:=by rw [Lib.cell_of_heap hb2];rfl
 have f1:w2.frozen? ⟨b,1,none⟩=false:=Lib.frozen_of_heap hb2 1
 obtain ⟨ao,n',cap,rfl⟩:∃ ao n' cap,v'=.slice ao n' cap:=by
  rcases hown'.2 with ⟨hv,_⟩|⟨g,cap,cur,fz,hv,_⟩
  ·exact ⟨_,_,_,hv⟩
  ·exact ⟨_,_,_,hv⟩
 go_wp2
 go_ret2
 refine ⟨rfl,.inr ?_,?_,(hk1.grown hgrow (Lib.ownsRowF_kind hown)).setCell ⟨b,1,none⟩ rfl _⟩
 ·exact Lib.BuilderAtF.put (T:=47) (e:=5) hB hb2 (bs':=bs++Lib.strCells s) (by simpa [Lib.strCells_length] using hown') X.neB5
 ·exact (hb1.grown hgrow (by have:=hb1.size;omega) (fun k hk=>(hown.lt k hk).1)).setCell (p:=⟨b,1,none⟩) hB _
end Go.Proofs.YtamojbfmphainaaDoor.Pr
-- shrunk
-- written by a program of this session's (a turned copy of the kit's printer); Lean checks it
namespace Go.Proofs.YtamojbfmphainaaDoor.Pr
open Go.RowKit Go.Proofs.YtamojbfmphainaaDoorW.PrintWords Go.Proofs.YtamojbfmphainaaDoorW.PrintLast Go.Proofs.YtamojbfmphainaaDoorW.PrintMore
attribute [local go_sem] max2_int min2_int max_two min_two max_three min_three max_four min_four   -- for this text's walks alone

def stringslite_TrimSuffix.f (a0:ByteArray) (a1:ByteArray):Option (ByteArray):=(stringslite_HasSuffix.f a0 a1).bind fun t101=>(if t101=true then (if 0≤(wrap64 ((a0.size:Int) - (a1.size:Int))) then (if (wrap64 ((a0.size:Int) - (a1.size:Int)))≤(a0.size:Int) then (some (a0.extract 0 ((wrap64 ((a0.size:Int) - (a1.size:Int))):Int).toNat)) else (none)) else (none)) else (some a0))
set_option maxHeartbeats 8000000 in
set_option maxRecDepth 100000 in
theorem stringslite_TrimSuffix.calls (a0:ByteArray) (a1:ByteArray) (r:ByteArray) (w:World) (h:stringslite_TrimSuffix.f a0 a1=some r) :
  Calls Tryd.prog 79 #[.string a0,.string a1] w fun e w'=>e=.returned (.string r)∧Drawn0 w w':=by
 have H:((stringslite_HasSuffix.f a0 a1).bind fun t101=>(if t101=true then (if 0≤(wrap64 ((a0.size:Int) - (a1.size:Int))) then (if (wrap64 ((a0.size:Int) - (a1.size:Int)))≤(a0.size:Int) then (some (a0.extract 0 ((wrap64 ((a0.size:Int) - (a1.size:Int))):Int).toNat)) else (none)) else (none)) else (some a0)))=some r:=h
 clear h
 replace H:=Option.bind_eq_some_iff.mp H
 obtain ⟨t101,A30,H⟩:=H
 replace H:(if t101=true then (if 0≤(wrap64 ((a0.size:Int) - (a1.size:Int))) then (if (wrap64 ((a0.size:Int) - (a1.size:Int)))≤(a0.size:Int) then (some (a0.extract 0 ((wrap64 ((a0.size:Int) - (a1.size:Int))):Int).toNat)) else (none)) else (none)) else (some a0))=some r:=H
 have A3:=Aside0.mk A30
 clear A30
 by_cases c4:t101=true
 ·subst c4
  have H1:(if 0≤(wrap64 ((a0.size:Int) - (a1.size:Int))) then (if (wrap64 ((a0.size:Int) - (a1.size:Int)))≤(a0.size:Int) then (some (a0.extract 0 ((wrap64 ((a0.size:Int) - (a1.size:Int))):Int).toNat)) else (none)) else (none))=some r:=by rw [if_pos rfl] at H;exact H
  clear H
  have H:=H1
  clear H1
  obtain ⟨ji5,hji5⟩:∃ j_:Int,(wrap64 ((a0.size:Int) - (a1.size:Int)))=j_:=⟨_,rfl⟩
  replace H:(if 0≤(ji5) then (if (ji5)≤(a0.size:Int) then (some (a0.extract 0 ((ji5):Int).toNat)) else (none)) else (none))=some r:=by first|(rw [hji5] at H;exact H)|(simp only [hji5] at H ⊢;exact H)
  (try rw [hji5] at A3)
  have hji5w:(IntKind.i64.wrap ((a0.size:Int) - (a1.size:Int)))=ji5:=(i64_w _).trans hji5
  by_cases c6:0≤(ji5)
  ·rw [if_pos c6] at H
   have c6b0:=eq_true c6
   have c6b1:decide (0≤(ji5))=true:=decide_eq_true c6
   clear c6
   by_cases c7:(ji5)≤(a0.size:Int)
   ·rw [if_pos c7] at H
    have c7b0:=eq_true c7
    have c7b1:decide ((ji5)≤(a0.size:Int))=true:=decide_eq_true c7
    clear c7
    obtain rfl:=Option.some.inj H
    go_enter Tryd.func79,Tryd.ntmps79
    go_wp2_with (first|((with_reducible refine gate_callee (f:=74) rfl ?_);refine goesL_ (some 7) rfl rfl Tryd.func74 (by kernel_rfl) rfl #[.string a0,.string a1] rfl (by (try simp only [List.map_toArray,List.map_cons,List.map_nil]);first|done|rfl|(simp only [List.length_drop,List.length_take];rfl)) ?_;(with_reducible refine (stringslite_HasSuffix.calls a0 a1 true _ A3.out).mono ?_);rintro e w' ⟨rfl,⟨nd,rfl⟩⟩;refine ⟨_,rfl,?_⟩))
    go_ret
    exact ⟨by first|rfl|(simp;done)|(simp only [← hji5]<;>(first|rfl|simp))|(simp [*];done),by repeat (first|exact Drawn0.refl _|apply Drawn0.step)⟩
   ·rw [if_neg c7] at H
    exact absurd H (by simp)
  ·rw [if_neg c6] at H
   exact absurd H (by simp)
 ·replace c4:=Bool.eq_false_iff.mpr c4
  subst c4
  have H1:(some a0)=some r:=by rw [if_neg (show ¬ (false=true) by decide)] at H;exact H
  clear H
  have H:=H1
  clear H1
  obtain rfl:=Option.some.inj H
  go_enter Tryd.func79,Tryd.ntmps79
  go_wp2_with (first|((with_reducible refine gate_callee (f:=74) rfl ?_);refine goesL_ (some 7) rfl rfl Tryd.func74 (by kernel_rfl) rfl #[.string a0,.string a1] rfl (by (try simp only [List.map_toArray,List.map_cons,List.map_nil]);first|done|rfl|(simp only [List.length_drop,List.length_take];rfl)) ?_;(with_reducible refine (stringslite_HasSuffix.calls a0 a1 false _ A3.out).mono ?_);rintro e w' ⟨rfl,⟨nd,rfl⟩⟩;refine ⟨_,rfl,?_⟩))
  go_ret
  exact ⟨by first|rfl|(simp;done)|(simp [*];done),by repeat (first|exact Drawn0.refl _|apply Drawn0.step)⟩

end Go.Proofs.YtamojbfmphainaaDoor.Pr
-- shrunk
-- written by a program of this session's (a turned copy of the kit's printer); Lean checks it
namespace Go.Proofs.YtamojbfmphainaaDoor.Pr
open Go.RowKit Go.Proofs.YtamojbfmphainaaDoorW.PrintWords Go.Proofs.YtamojbfmphainaaDoorW.PrintLast Go.Proofs.YtamojbfmphainaaDoorW.PrintMore
attribute [local go_sem] max2_int min2_int max_two min_two max_three min_three max_four min_four   -- for this text's walks alone

def strings_TrimSuffix.f (a0:ByteArray) (a1:ByteArray):Option (ByteArray):=(stringslite_TrimSuffix.f a0 a1).bind fun t102=>(some t102)
set_option maxHeartbeats 8000000 in
set_option maxRecDepth 100000 in
theorem strings_TrimSuffix.calls (a0:ByteArray) (a1:ByteArray) (r:ByteArray) (w:World) (h:strings_TrimSuffix.f a0 a1=some r) :
  Calls Tryd.prog 61 #[.string a0,.string a1] w fun e w'=>e=.returned (.string r)∧Drawn0 w w':=by
 have H:((stringslite_TrimSuffix.f a0 a1).bind fun t102=>(some t102))=some r:=h
 clear h
 replace H:=Option.bind_eq_some_iff.mp H
 obtain ⟨t102,A30,H⟩:=H
 replace H:(some t102)=some r:=H
 have A3:=Aside0.mk A30
 clear A30
 obtain rfl:=Option.some.inj H
 go_enter Tryd.func61,Tryd.ntmps61
 go_wp2_with (first|((with_reducible refine gate_callee (f:=79) rfl ?_);refine goesL_ (some 7) rfl rfl Tryd.func79 (by kernel_rfl) rfl #[.string a0,.string a1] rfl (by (try simp only [List.map_toArray,List.map_cons,List.map_nil]);first|done|rfl|(simp only [List.length_drop,List.length_take];rfl)) ?_;(with_reducible refine (stringslite_TrimSuffix.calls a0 a1 t102 _ A3.out).mono ?_);rintro e w' ⟨rfl,⟨nd,rfl⟩⟩;refine ⟨_,rfl,?_⟩))
 go_ret
 exact ⟨by first|rfl|(simp;done)|(simp [*];done),by repeat (first|exact Drawn0.refl _|apply Drawn0.step)⟩




end Go.Proofs.YtamojbfmphainaaDoor.Pr
-- shrunk
-- written by a program of this session's (a turned copy of the kit's printer); Lean checks it
namespace Go.Proofs.YtamojbfmphainaaDoor.Pr
open Go.RowKit Go.Proofs.YtamojbfmphainaaDoorW.PrintWords Go.Proofs.YtamojbfmphainaaDoorW.PrintLast Go.Proofs.YtamojbfmphainaaDoorW.PrintMore
attribute [local go_sem] max2_int min2_int max_two min_two max_three min_three max_four min_four   -- for this text's walks alone

def strings_Contains.f (a0:ByteArray) (a1:ByteArray):Option (Bool):=(strings_Index.f a0 a1).bind fun t105=>(some (decide (t105 ≥ 0)))
set_option maxHeartbeats 8000000 in
set_option maxRecDepth 100000 in
theorem strings_Contains.calls (a0:ByteArray) (a1:ByteArray) (r:Bool) (w:World) (h:strings_Contains.f a0 a1=some r) :
  Calls Tryd.prog 71 #[.string a0,.string a1] w fun e w'=>e=.returned (.bool r)∧Drawn0 w w':=by
 have H:((strings_Index.f a0 a1).bind fun t105=>(some (decide (t105 ≥ 0))))=some r:=h
 clear h
 replace H:=Option.bind_eq_some_iff.mp H
 obtain ⟨t105,A30,H⟩:=H
 replace H:(some (decide (t105 ≥ 0)))=some r:=H
 have A3:=Aside0.mk A30
 clear A30
 obtain rfl:=Option.some.inj H
 go_enter Tryd.func71,Tryd.ntmps71
 go_wp2_with (first|((with_reducible refine gate_callee (f:=65) rfl ?_);refine goesL_ (some 7) rfl rfl Tryd.func65 (by kernel_rfl) rfl #[.string a0,.string a1] rfl (by (try simp only [List.map_toArray,List.map_cons,List.map_nil]);first|done|rfl|(simp only [List.length_drop,List.length_take];rfl)) ?_;(with_reducible refine (strings_Index.calls a0 a1 t105 _ A3.out).mono ?_);rintro e w' ⟨rfl,⟨nd,rfl⟩⟩;refine ⟨_,rfl,?_⟩))
 go_ret
 exact ⟨by first|rfl|(simp;done)|(simp [*];done),by repeat (first|exact Drawn0.refl _|apply Drawn0.step)⟩

end Go.Proofs.YtamojbfmphainaaDoor.Pr
-- shrunk
-- written by a program of this session's (a turned copy of the kit's printer); Lean checks it
namespace Go.Proofs.YtamojbfmphainaaDoor.Pr
open Go.RowKit Go.Proofs.YtamojbfmphainaaDoorW.PrintWords Go.Proofs.YtamojbfmphainaaDoorW.PrintLast Go.Proofs.YtamojbfmphainaaDoorW.PrintMore
attribute [local go_sem] max2_int min2_int max_two min_two max_three min_three max_four min_four   -- for this text's walks alone

def unified_plain.f (a0:ByteArray):Option (Bool):=(strings_TrimSuffix.f a0 (⟨#[10]⟩:ByteArray)).bind fun t106=>((strings_Contains.f t106 (⟨#[10]⟩:ByteArray)).bind fun t107=>(some (!t107)))
set_option maxHeartbeats 8000000 in
set_option maxRecDepth 100000 in
theorem unified_plain.calls (a0:ByteArray) (r:Bool) (w:World) (h:unified_plain.f a0=some r) :
  Calls Tryd.prog 51 #[.string a0] w fun e w'=>e=.returned (.bool r)∧Drawn0 w w':=by
 have H:((strings_TrimSuffix.f a0 (⟨#[10]⟩:ByteArray)).bind fun t106=>((strings_Contains.f t106 (⟨#[10]⟩:ByteArray)).bind fun t107=>(some (!t107))))=some r:=h
 clear h
 replace H:=Option.bind_eq_some_iff.mp H
 obtain ⟨t106,A20,H⟩:=H
 replace H:((strings_Contains.f t106 (⟨#[10]⟩:ByteArray)).bind fun t107=>(some (!t107)))=some r:=H
 have A2:=Aside0.mk A20
 clear A20
 replace H:=Option.bind_eq_some_iff.mp H
 obtain ⟨t107,A30,H⟩:=H
 replace H:(some (!t107))=some r:=H
 have A3:=Aside0.mk A30
 clear A30
 obtain rfl:=Option.some.inj H
 go_enter Tryd.func51,Tryd.ntmps51
 go_wp2_with (first|((with_reducible refine gate_callee (f:=61) rfl ?_);refine goesL_ (some 4) rfl rfl Tryd.func61 (by kernel_rfl) rfl #[.string a0,.string (⟨#[10]⟩:ByteArray)] rfl (by (try simp only [List.map_toArray,List.map_cons,List.map_nil]);first|done|rfl|(simp only [List.length_drop,List.length_take];rfl)) ?_;(with_reducible refine (strings_TrimSuffix.calls a0 (⟨#[10]⟩:ByteArray) t106 _ A2.out).mono ?_);rintro e w' ⟨rfl,⟨nd,rfl⟩⟩;refine ⟨_,rfl,?_⟩)|((with_reducible refine gate_callee (f:=71) rfl ?_);refine goesL_ (some 5) rfl rfl Tryd.func71 (by kernel_rfl) rfl #[.string t106,.string (⟨#[10]⟩:ByteArray)] rfl (by (try simp only [List.map_toArray,List.map_cons,List.map_nil]);first|done|rfl|(simp only [List.length_drop,List.length_take];rfl)) ?_;(with_reducible refine (strings_Contains.calls t106 (⟨#[10]⟩:ByteArray) t107 _ A3.out).mono ?_);rintro e w' ⟨rfl,⟨nd,rfl⟩⟩;refine ⟨_,rfl,?_⟩))
 go_ret
 exact ⟨by first|rfl|(simp;done)|(simp [*];done),by repeat (first|exact Drawn0.refl _|apply Drawn0.step)⟩

end Go.Proofs.YtamojbfmphainaaDoor.Pr
-- shrunk
-- written by a program of this session's (a turned copy of the kit's printer); Lean checks it
namespace Go.Proofs.YtamojbfmphainaaDoor.Pr
open Go.RowKit Go.Proofs.YtamojbfmphainaaDoorW.PrintWords Go.Proofs.YtamojbfmphainaaDoorW.PrintLast Go.Proofs.YtamojbfmphainaaDoorW.PrintMore
attribute [local go_sem] max2_int min2_int max_two min_two max_three min_three max_four min_four   -- for this text's walks alone

def unified_can.l0:Nat→List ByteArray→Int→Int→Int→Int→Int→Int→List ByteArray→Option (Bool)
 | 0,_,_,_,_,_,_,_,_=>none
 | k+1,x6,x7,x8,x114000,x114001,x114002,x114003,x114004=>if x8<x7 then (if 0≤x8 then (if x8<(x6.length:Int) then ((unified_plain.f (rdOf ByteArray.empty x6 x8)).bind fun t115=>(if t115=true then (unified_can.l0 k x6 x7 (wrap64 (x8+1)) x114000 x114001 x114002 x114003 x114004) else (some false))) else (none)) else (none)) else ((hunk_Right.f k x114000 x114001 x114002 x114003 x114004).bind fun t116=>(if t116=true then ((unified_first.f x114000 x114001).bind fun t117=>((unified_first.f x114002 x114003).bind fun t118=>(some (decide ((mx (mx (mx t117 x114001) t118) x114003)<2147483648))))) else (some false)))
def unified_can.f (k:Nat) (a0_0:Int) (a0_1:Int) (a0_2:Int) (a0_3:Int) (l0_4:List ByteArray):Option (Bool):=unified_can.l0 k l0_4 (l0_4.length:Int) 0 a0_0 a0_1 a0_2 a0_3 l0_4
def unified_can.T7:Bool × List (List Nat × List Nat):=(true,[([],[]),([0],[0]),([1,1],[1]),([2],[2]),([3,2],[2,3]),([2],[2]),([5,2],[2,5]),([4,6,2,2],[2,4,6]),([2],[2]),([8,2],[2,8]),([2],[2]),([10,2],[2,10]),([2],[2]),([12,2],[2,12]),([11,13,7,2],[2,11,13]),([2],[2]),([15,2],[2,15]),([7,9,14,16,2],[2,7,9,14,16]),([17,2],[2,17]),([2,18],[2,18]),([19,14,0,1,2,3,4,5,6,7,8,9,10,11,12,13,14,15,16,17,18,19],[19])])
def unified_can.B7:List Nat:=[0,1,3,7,15,7,39,127,7,263,7,1031,7,4103,15615,7,32775,131071,262143,524287,1048575]
theorem unified_can.tab7:rtab .any (opsOf Tryd.f22 7)=unified_can.T7:=by kernel_rfl
theorem unified_can.bits7:waitsOk unified_can.T7.2 unified_can.B7=true:=by kernel_rfl
set_option maxHeartbeats 8000000 in
set_option maxRecDepth 100000 in
theorem unified_can.calls (k:Nat) (a0_0:Int) (a0_1:Int) (a0_2:Int) (a0_3:Int) (A0_4:Option Addr) (c0_4:Nat) (l0_4:List ByteArray) (r:Bool) (w:World) (hr0_4:Kd.C Kd.string w A0_4 l0_4.length l0_4) (hc0_4:l0_4.length≤c0_4) (h:unified_can.f k a0_0 a0_1 a0_2 a0_3 l0_4=some r) :
  Calls Tryd.prog 22 #[.agg #[.int .i64 a0_0,.int .i64 a0_1,.int .i64 a0_2,.int .i64 a0_3,.slice A0_4 l0_4.length c0_4]] w fun e w'=>e=.returned (.bool r)∧Below w.heap.size w w':=by
 have hu41:=Tryd.underlying41
 have HR0_4:=Aside0.mk hr0_4
 have HC0_4:=Aside0.mk hc0_4
 clear hr0_4 hc0_4
 have HB:=Aside0.mk (Below.refl w.heap.size w)
 have H:(unified_can.l0 k l0_4 (l0_4.length:Int) 0 a0_0 a0_1 a0_2 a0_3 l0_4)=some r:=h
 clear h
 have H':=Aside0.mk H
 clear H
 go_enter Tryd.func22,Tryd.ntmps22
 go_wp2_with (first|((with_reducible refine gate_dst (N:=1) rfl ?_);(try (refine gate_guard (by rfl) ?_;dsimp only));refine box_event ?hg (N:=1) ?hd (cs:=#[.int .i64 a0_0,.int .i64 a0_1,.int .i64 a0_2,.int .i64 a0_3,.slice A0_4 l0_4.length c0_4]) (t:=41) ?hr ?_;(case hd=>rfl);(case hg=>rfl);(case hr=>first|(go_simp;done)|(go_simp;rfl));intro gb113 hg w2 hbox hb;have n0_:=Aside0.mk (below_step (by repeat (first|(with_reducible first|exact HB.out|apply below_alloc|apply pw_below_drewN|apply below_drew1)|exact HB.out)) hb);have n1_:=Aside0.mk (hbox);have n2_:=Aside0.mk ((by rw [hg];exact (below_size (by repeat (first|(with_reducible first|exact HB.out|apply below_alloc|apply pw_below_drewN|apply below_drew1)|exact HB.out))):w.heap.size≤gb113));have n3_:=Aside0.mk ((by rw [hg];exact (below_size (by repeat (first|(with_reducible first|exact HB.out|apply below_alloc|apply pw_below_drewN|apply below_drew1)|exact HB.out))):w.heap.size≤gb113));clear HB;have HB:=n0_;have BK113:=n1_;have GW113:=n2_;have GE113:=n3_;clear n0_ n1_ n2_ n3_;clear hb hbox hg;have hcz3_0:w2.cell? ⟨gb113,0,none⟩=some (.int .i64 a0_0):=(blk_cell BK113.out 0).trans rfl;have hcz3_1:w2.cell? ⟨gb113,1,none⟩=some (.int .i64 a0_1):=(blk_cell BK113.out 1).trans rfl;have hcz3_2:w2.cell? ⟨gb113,2,none⟩=some (.int .i64 a0_2):=(blk_cell BK113.out 2).trans rfl;have hcz3_3:w2.cell? ⟨gb113,3,none⟩=some (.int .i64 a0_3):=(blk_cell BK113.out 3).trans rfl;have hcz3_4:w2.cell? ⟨gb113,4,none⟩=some (.slice A0_4 l0_4.length c0_4):=(blk_cell BK113.out 4).trans rfl;have hfz3_0:=blk_frozen BK113.out 0;have hfz3_1:=blk_frozen BK113.out 1;have hfz3_2:=blk_frozen BK113.out 2;have hfz3_3:=blk_frozen BK113.out 3;have hfz3_4:=blk_frozen BK113.out 4))
 go_loopg [8] k (fun kq v8 w'=>∃ (x8_1:Int),v8=.int .i64 x8_1∧Aside0 (unified_can.l0 kq l0_4 (l0_4.length:Int) x8_1 a0_0 a0_1 a0_2 a0_3 l0_4=some r)∧Aside0 (kq≤k)∧Aside0 (w'.heap[gb113]?=some (.cells #[.int .i64 a0_0,.int .i64 a0_1,.int .i64 a0_2,.int .i64 a0_3,(.slice A0_4 l0_4.length c0_4)] 41 (0,0)))∧Aside0 (Below w.heap.size w w'))
 case atStart=>exact ⟨(0),(by first|rfl|(simp;done)|(simp [*];done)),H',⟨Nat.le_refl _⟩,⟨by (with_reducible repeat (first|refine blk_drewN ?_ _|refine blk_drew ?_|refine blk_alloc ?_ _));exact BK113.out⟩,⟨by repeat (first|(with_reducible first|exact HB.out|apply below_alloc|apply pw_below_drewN|apply below_drew1|refine below_set ?_ GE113.out)|exact HB.out)⟩⟩
 case round =>
  clear H'
  try clear c2
  try clear p2
  try clear hcz3_0
  try clear hcz3_1
  try clear hcz3_2
  try clear hcz3_3
  try clear hcz3_4
  try clear hfz3_0
  try clear hfz3_1
  try clear hfz3_2
  try clear hfz3_3
  try clear hfz3_4
  obtain ⟨x8_1,rfl,HA,HK1,BK113,HB⟩:=hrel
  cases gk with
  | zero=>exact absurd HA.out (by simp [unified_can.l0])
  | succ k1 =>
   have H:=HA.out
   clear HA
   simp only [unified_can.l0] at H
   by_cases c4:x8_1<(l0_4.length:Int)
   ·rw [if_pos c4] at H
    have c4b0:decide (x8_1<(l0_4.length:Int))=true:=decide_eq_true c4
    clear c4
    by_cases c5:0≤x8_1
    ·rw [if_pos c5] at H
     have c5b0:decide (0≤x8_1)=true:=decide_eq_true c5
     clear c5
     by_cases c6:x8_1<(l0_4.length:Int)
     ·rw [if_pos c6] at H
      have c6b0:decide (x8_1<(l0_4.length:Int))=true:=decide_eq_true c6
      clear c6
      replace H:=Option.bind_eq_some_iff.mp H
      obtain ⟨t115,A70,H⟩:=H
      replace H:(if t115=true then (unified_can.l0 k1 l0_4 (l0_4.length:Int) (wrap64 (x8_1+1)) a0_0 a0_1 a0_2 a0_3 l0_4) else (some false))=some r:=H
      have A7:=Aside0.mk A70
      clear A70
      by_cases c8:t115=true
      ·subst c8
       have H1:(unified_can.l0 k1 l0_4 (l0_4.length:Int) (wrap64 (x8_1+1)) a0_0 a0_1 a0_2 a0_3 l0_4)=some r:=by rw [if_pos rfl] at H;exact H
       clear H
       have H:=H1
       clear H1
       have H':=Aside0.mk H
       clear H
       have p114:0≤(x8_1:Int):=of_decide_eq_true (by first|(with_reducible assumption)|assumption)
       have q114:x8_1<(l0_4.length:Int):=of_decide_eq_true (by first|(with_reducible assumption)|assumption)
       obtain ⟨ad114,e114,hx114_0⟩:=Kd.at_string HR0_4.out x8_1 p114 q114
       cases e114
       replace hx114_0:=(HB.out.cell (World.block_lt_of_cell? w _ hx114_0)).trans hx114_0
       replace p114:=eq_true p114
       replace q114:=eq_true q114
       go_wp2_with (first|((with_reducible refine gate_callee (f:=51) rfl ?_);refine goesL_ (some 13) rfl rfl Tryd.func51 (by kernel_rfl) rfl #[.string (rdOf ByteArray.empty l0_4 x8_1)] rfl (by (try simp only [List.map_toArray,List.map_cons,List.map_nil]);first|done|rfl|(simp only [List.length_drop,List.length_take];rfl)) ?_;(with_reducible refine (unified_plain.calls (rdOf ByteArray.empty l0_4 x8_1) true _ A7.out).mono ?_);rintro e w' ⟨rfl,⟨nd,rfl⟩⟩;refine ⟨_,rfl,?_⟩))
       go_roundg k1
       case measure=>have:=HK1.out;omega
       case rel=>exact ⟨(wrap64 (x8_1+1)),(by first|rfl|(simp;done)|(simp [*];done)),H',⟨by have:=HK1.out;omega⟩,⟨by (with_reducible repeat (first|refine blk_drewN ?_ _|refine blk_drew ?_|refine blk_alloc ?_ _));exact BK113.out⟩,⟨by repeat (first|(with_reducible first|exact HB.out|apply below_alloc|apply pw_below_drewN|apply below_drew1|refine below_set ?_ GE113.out)|exact HB.out)⟩⟩
      ·replace c8:=Bool.eq_false_iff.mpr c8
       subst c8
       have H1:(some false)=some r:=by rw [if_neg (show ¬ (false=true) by decide)] at H;exact H
       clear H
       have H:=H1
       clear H1
       obtain rfl:=Option.some.inj H
       have p114:0≤(x8_1:Int):=of_decide_eq_true (by first|(with_reducible assumption)|assumption)
       have q114:x8_1<(l0_4.length:Int):=of_decide_eq_true (by first|(with_reducible assumption)|assumption)
       obtain ⟨ad114,e114,hx114_0⟩:=Kd.at_string HR0_4.out x8_1 p114 q114
       cases e114
       replace hx114_0:=(HB.out.cell (World.block_lt_of_cell? w _ hx114_0)).trans hx114_0
       replace p114:=eq_true p114
       replace q114:=eq_true q114
       go_wp2_with (first|((with_reducible refine gate_callee (f:=51) rfl ?_);refine goesL_ (some 13) rfl rfl Tryd.func51 (by kernel_rfl) rfl #[.string (rdOf ByteArray.empty l0_4 x8_1)] rfl (by (try simp only [List.map_toArray,List.map_cons,List.map_nil]);first|done|rfl|(simp only [List.length_drop,List.length_take];rfl)) ?_;(with_reducible refine (unified_plain.calls (rdOf ByteArray.empty l0_4 x8_1) false _ A7.out).mono ?_);rintro e w' ⟨rfl,⟨nd,rfl⟩⟩;refine ⟨_,rfl,?_⟩))
       go_ret
       exact ⟨by first|rfl|(simp [errW_none,errW_some]<;>rfl)|(simp [*,errW_none,errW_some]<;>rfl),by repeat (first|(with_reducible first|exact HB.out|apply below_alloc|apply pw_below_drewN|apply below_drew1|refine below_set ?_ GE113.out)|exact HB.out)⟩
     ·rw [if_neg c6] at H
      exact absurd H (by simp)
    ·rw [if_neg c5] at H
     exact absurd H (by simp)
   ·rw [if_neg c4] at H
    have c4b0:decide (x8_1<(l0_4.length:Int))=false:=decide_eq_false c4
    clear c4
    replace H:=Option.bind_eq_some_iff.mp H
    obtain ⟨t116,A90,H⟩:=H
    replace H:(if t116=true then ((unified_first.f a0_0 a0_1).bind fun t117=>((unified_first.f a0_2 a0_3).bind fun t118=>(some (decide ((mx (mx (mx t117 a0_1) t118) a0_3)<2147483648))))) else (some false))=some r:=H
    have A9:=Aside0.mk A90
    clear A90
    by_cases c10:t116=true
    ·subst c10
     have H1:((unified_first.f a0_0 a0_1).bind fun t117=>((unified_first.f a0_2 a0_3).bind fun t118=>(some (decide ((mx (mx (mx t117 a0_1) t118) a0_3)<2147483648)))))=some r:=by rw [if_pos rfl] at H;exact H
     clear H
     have H:=H1
     clear H1
     replace H:=Option.bind_eq_some_iff.mp H
     obtain ⟨t117,A110,H⟩:=H
     replace H:((unified_first.f a0_2 a0_3).bind fun t118=>(some (decide ((mx (mx (mx t117 a0_1) t118) a0_3)<2147483648))))=some r:=H
     have A11:=Aside0.mk A110
     clear A110
     replace H:=Option.bind_eq_some_iff.mp H
     obtain ⟨t118,A120,H⟩:=H
     replace H:(some (decide ((mx (mx (mx t117 a0_1) t118) a0_3)<2147483648)))=some r:=H
     have A12:=Aside0.mk A120
     clear A120
     obtain ⟨ji13,hji13⟩:∃ j_:Int,(mx t117 a0_1)=j_:=⟨_,rfl⟩
     replace H:(some (decide ((mx (mx (ji13) t118) a0_3)<2147483648)))=some r:=by first|(rw [hji13] at H;exact H)|(simp only [hji13] at H ⊢;exact H)
     (try rw [hji13] at A9)
     (try rw [hji13] at A11)
     (try rw [hji13] at A12)
     have hji13_:(if t117<a0_1 then a0_1 else t117)=ji13:=hji13
     obtain ⟨ji14,hji14⟩:∃ j_:Int,(mx (ji13) t118)=j_:=⟨_,rfl⟩
     replace H:(some (decide ((mx (ji14) a0_3)<2147483648)))=some r:=by first|(rw [hji14] at H;exact H)|(simp only [hji14] at H ⊢;exact H)
     (try rw [hji14] at A9)
     (try rw [hji14] at A11)
     (try rw [hji14] at A12)
     have hji14_:(if (ji13)<t118 then t118 else (ji13))=ji14:=hji14
     obtain ⟨ji15,hji15⟩:∃ j_:Int,(mx (ji14) a0_3)=j_:=⟨_,rfl⟩
     replace H:(some (decide ((ji15)<2147483648)))=some r:=by first|(rw [hji15] at H;exact H)|(simp only [hji15] at H ⊢;exact H)
     (try rw [hji15] at A9)
     (try rw [hji15] at A11)
     (try rw [hji15] at A12)
     have hji15_:(if (ji14)<a0_3 then a0_3 else (ji14))=ji15:=hji15
     obtain rfl:=Option.some.inj H
     try go_wp2
     have n0_:=Aside0.mk (blk_drew BK113.out)
     have n1_:=Aside0.mk (below_drew1 HB.out)
     clear BK113
     clear HB
     have BK113:=n0_
     have HB:=n1_
     clear n0_ n1_
     refine start_ (n:=21) (S:=fun w'=>w'.cell? ⟨gb113,0,none⟩=some (.int .i64 a0_0)∧w'.cell? ⟨gb113,1,none⟩=some (.int .i64 a0_1)∧w'.cell? ⟨gb113,2,none⟩=some (.int .i64 a0_2)∧w'.cell? ⟨gb113,3,none⟩=some (.int .i64 a0_3)∧w'.cell? ⟨gb113,4,none⟩=some (.slice A0_4 l0_4.length c0_4)) (ds:=[]) #[false,false,false,false,false,false,false,false,false,false,false,false,false,false,false,false,false,false,false,false,false] (by kernel_rfl) rfl rfl ⟨(blk_cell BK113.out 0).trans rfl,(blk_cell BK113.out 1).trans rfl,(blk_cell BK113.out 2).trans rfl,(blk_cell BK113.out 3).trans rfl,(blk_cell BK113.out 4).trans rfl⟩ (fun hHeld=>?_);refine with_tabW unified_can.tab7 unified_can.bits7 (fun HT_ HW_=>?_)
     generalize wr.drew=w16 at BK113 HB hHeld ⊢
     refine take_ (i:=0) (N:=some 16) (v:=?_) (a':=?_) #[true,false,false,false,false,false,false,false,false,false,false,false,false,false,false,false,false,false,false,false,false] rfl rfl (take_ofW HT_.out HW_.out (by kernel_rfl)) (fun _ _ _ h=>h) (Or.inl ⟨by rfl,?_⟩) hHeld ?_ ?_
     rotate_left
     ·rintro w' ⟨s0,s1,s2,s3,s4⟩
      go_simp
      with_reducible rfl
     rotate_left
     ·simp only [Act.put,List.setIfInBounds_toArray,List.set_cons_zero,List.set_cons_succ,i64_w,i32_w]
      rfl
     refine one_ (i:=1) (N:=some 17) #[true,true,false,false,false,false,false,false,false,false,false,false,false,false,false,false,false,false,false,false,false] rfl rfl (one_of HT_.out (by kernel_rfl)) (by decide) (fun K hK=>?_)
     refine goes_ Tryd.func52 (by kernel_rfl) rfl #[.agg #[.int .i64 a0_0,.int .i64 a0_1,.int .i64 a0_2,.int .i64 a0_3,.slice A0_4 l0_4.length c0_4]] (by rfl) rfl rfl (by (try simp only [List.map_toArray,List.map_cons,List.map_nil]);first|done|rfl|(simp only [List.length_drop,List.length_take];rfl)) ?_
     with_reducible refine (hunk_Right.calls k1 a0_0 a0_1 a0_2 a0_3 _ _ l0_4 true _ ?side1 ?side2 A9.out).mono ?_
     (case side1=>repeat (first|exact (Kd.C_below HR0_4.out HB.out)|(with_reducible refine Kd.C_alloc ?_ _)|(with_reducible refine Kd.C_drewN ?_ _)|(with_reducible refine Kd.C_drew ?_)))
     (case side2=>exact HC0_4.out)
     rintro e w17 ⟨rfl,hb⟩
     refine ⟨_,rfl,?_⟩
     have n0_:=Aside0.mk (blk_below (g:=gb113) (o:=.cells #[.int .i64 a0_0,.int .i64 a0_1,.int .i64 a0_2,.int .i64 a0_3,.slice A0_4 l0_4.length c0_4] 41 (0,0)) (by (with_reducible repeat (first|refine blk_drewN ?_ _|refine blk_drew ?_|refine blk_alloc ?_ _));exact BK113.out) hb)
     have n1_:=Aside0.mk (below_step (by repeat (first|(with_reducible first|exact HB.out|apply below_alloc|apply pw_below_drewN|apply below_drew1|refine below_set ?_ GE113.out)|exact HB.out)) hb)
     clear BK113
     clear HB
     have BK113:=n0_
     have HB:=n1_
     clear n0_ n1_
     (try clear hb)
     (try clear hb2)
     (try clear hk)
     (try clear hi)
     refine hK.out _ _ ⟨(blk_cell BK113.out 0).trans rfl,(blk_cell BK113.out 1).trans rfl,(blk_cell BK113.out 2).trans rfl,(blk_cell BK113.out 3).trans rfl,(blk_cell BK113.out 4).trans rfl⟩ (fun hHeld=>?_)
     clear hK K
     refine norm_ (a':=?_) ?_ ?_
     rotate_left
     ·show Act.put _ (some 17) _=_
      simp only [Act.put,List.setIfInBounds_toArray,List.set_cons_zero,List.set_cons_succ,i64_w,i32_w]
      rfl
     refine pure_ (i:=2) (N:=some 18) (v:=?_) (a':=?_) #[true,true,true,false,false,false,false,false,false,false,false,false,false,false,false,false,false,false,false,false,false] rfl rfl (any_of HT_.out (by kernel_rfl)) (fun _ _ _ h=>h) (Or.inl ⟨by rfl,?_⟩) ?_ ?_
     rotate_left
     ·intro w'
      go_simp
      with_reducible rfl
     rotate_left
     ·simp only [Act.put,List.setIfInBounds_toArray,List.set_cons_zero,List.set_cons_succ,i64_w,i32_w]
      rfl
     refine pure_ (i:=3) (N:=some 19) (v:=?_) (a':=?_) #[true,true,true,true,false,false,false,false,false,false,false,false,false,false,false,false,false,false,false,false,false] rfl rfl (any_of HT_.out (by kernel_rfl)) (fun _ _ _ h=>h) (Or.inl ⟨by rfl,?_⟩) ?_ ?_
     rotate_left
     ·intro w'
      go_simp
      with_reducible rfl
     rotate_left
     ·simp only [Act.put,List.setIfInBounds_toArray,List.set_cons_zero,List.set_cons_succ,i64_w,i32_w]
      rfl
     refine pure_ (i:=5) (N:=some 21) (v:=?_) (a':=?_) #[true,true,true,true,false,true,false,false,false,false,false,false,false,false,false,false,false,false,false,false,false] rfl rfl (any_of HT_.out (by kernel_rfl)) (fun _ _ _ h=>h) (Or.inl ⟨by rfl,?_⟩) ?_ ?_
     rotate_left
     ·intro w'
      go_simp
      with_reducible rfl
     rotate_left
     ·simp only [Act.put,List.setIfInBounds_toArray,List.set_cons_zero,List.set_cons_succ,i64_w,i32_w]
      rfl
     refine pure_ (i:=8) (N:=some 24) (v:=?_) (a':=?_) #[true,true,true,true,false,true,false,false,true,false,false,false,false,false,false,false,false,false,false,false,false] rfl rfl (any_of HT_.out (by kernel_rfl)) (fun _ _ _ h=>h) (Or.inl ⟨by rfl,?_⟩) ?_ ?_
     rotate_left
     ·intro w'
      go_simp
      with_reducible rfl
     rotate_left
     ·simp only [Act.put,List.setIfInBounds_toArray,List.set_cons_zero,List.set_cons_succ,i64_w,i32_w]
      rfl
     refine pure_ (i:=10) (N:=some 26) (v:=?_) (a':=?_) #[true,true,true,true,false,true,false,false,true,false,true,false,false,false,false,false,false,false,false,false,false] rfl rfl (any_of HT_.out (by kernel_rfl)) (fun _ _ _ h=>h) (Or.inl ⟨by rfl,?_⟩) ?_ ?_
     rotate_left
     ·intro w'
      go_simp
      with_reducible rfl
     rotate_left
     ·simp only [Act.put,List.setIfInBounds_toArray,List.set_cons_zero,List.set_cons_succ,i64_w,i32_w]
      rfl
     refine pure_ (i:=12) (N:=some 28) (v:=?_) (a':=?_) #[true,true,true,true,false,true,false,false,true,false,true,false,true,false,false,false,false,false,false,false,false] rfl rfl (any_of HT_.out (by kernel_rfl)) (fun _ _ _ h=>h) (Or.inl ⟨by rfl,?_⟩) ?_ ?_
     rotate_left
     ·intro w'
      go_simp
      with_reducible rfl
     rotate_left
     ·simp only [Act.put,List.setIfInBounds_toArray,List.set_cons_zero,List.set_cons_succ,i64_w,i32_w]
      rfl
     refine pure_ (i:=15) (N:=some 31) (v:=?_) (a':=?_) #[true,true,true,true,false,true,false,false,true,false,true,false,true,false,false,true,false,false,false,false,false] rfl rfl (any_of HT_.out (by kernel_rfl)) (fun _ _ _ h=>h) (Or.inl ⟨by rfl,?_⟩) ?_ ?_
     rotate_left
     ·intro w'
      go_simp
      with_reducible rfl
     rotate_left
     ·simp only [Act.put,List.setIfInBounds_toArray,List.set_cons_zero,List.set_cons_succ,i64_w,i32_w]
      rfl
     refine take_ (i:=4) (N:=some 20) (v:=?_) (a':=?_) #[true,true,true,true,true,true,false,false,true,false,true,false,true,false,false,true,false,false,false,false,false] rfl rfl (take_ofW HT_.out HW_.out (by kernel_rfl)) (fun _ _ _ h=>h) (Or.inl ⟨by rfl,?_⟩) hHeld ?_ ?_
     rotate_left
     ·rintro w' ⟨s0,s1,s2,s3,s4⟩
      go_simp
      with_reducible rfl
     rotate_left
     ·simp only [Act.put,List.setIfInBounds_toArray,List.set_cons_zero,List.set_cons_succ,i64_w,i32_w]
      rfl
     refine take_ (i:=6) (N:=some 22) (v:=?_) (a':=?_) #[true,true,true,true,true,true,true,false,true,false,true,false,true,false,false,true,false,false,false,false,false] rfl rfl (take_ofW HT_.out HW_.out (by kernel_rfl)) (fun _ _ _ h=>h) (Or.inl ⟨by rfl,?_⟩) hHeld ?_ ?_
     rotate_left
     ·rintro w' ⟨s0,s1,s2,s3,s4⟩
      go_simp
      with_reducible rfl
     rotate_left
     ·simp only [Act.put,List.setIfInBounds_toArray,List.set_cons_zero,List.set_cons_succ,i64_w,i32_w]
      rfl
     refine take_ (i:=9) (N:=some 25) (v:=?_) (a':=?_) #[true,true,true,true,true,true,true,false,true,true,true,false,true,false,false,true,false,false,false,false,false] rfl rfl (take_ofW HT_.out HW_.out (by kernel_rfl)) (fun _ _ _ h=>h) (Or.inl ⟨by rfl,?_⟩) hHeld ?_ ?_
     rotate_left
     ·rintro w' ⟨s0,s1,s2,s3,s4⟩
      go_simp
      with_reducible rfl
     rotate_left
     ·simp only [Act.put,List.setIfInBounds_toArray,List.set_cons_zero,List.set_cons_succ,i64_w,i32_w]
      rfl
     refine take_ (i:=11) (N:=some 27) (v:=?_) (a':=?_) #[true,true,true,true,true,true,true,false,true,true,true,true,true,false,false,true,false,false,false,false,false] rfl rfl (take_ofW HT_.out HW_.out (by kernel_rfl)) (fun _ _ _ h=>h) (Or.inl ⟨by rfl,?_⟩) hHeld ?_ ?_
     rotate_left
     ·rintro w' ⟨s0,s1,s2,s3,s4⟩
      go_simp
      with_reducible rfl
     rotate_left
     ·simp only [Act.put,List.setIfInBounds_toArray,List.set_cons_zero,List.set_cons_succ,i64_w,i32_w]
      rfl
     refine take_ (i:=13) (N:=some 29) (v:=?_) (a':=?_) #[true,true,true,true,true,true,true,false,true,true,true,true,true,true,false,true,false,false,false,false,false] rfl rfl (take_ofW HT_.out HW_.out (by kernel_rfl)) (fun _ _ _ h=>h) (Or.inl ⟨by rfl,?_⟩) hHeld ?_ ?_
     rotate_left
     ·rintro w' ⟨s0,s1,s2,s3,s4⟩
      go_simp
      with_reducible rfl
     rotate_left
     ·simp only [Act.put,List.setIfInBounds_toArray,List.set_cons_zero,List.set_cons_succ,i64_w,i32_w]
      rfl
     refine take_ (i:=16) (N:=some 32) (v:=?_) (a':=?_) #[true,true,true,true,true,true,true,false,true,true,true,true,true,true,false,true,true,false,false,false,false] rfl rfl (take_ofW HT_.out HW_.out (by kernel_rfl)) (fun _ _ _ h=>h) (Or.inl ⟨by rfl,?_⟩) hHeld ?_ ?_
     rotate_left
     ·rintro w' ⟨s0,s1,s2,s3,s4⟩
      go_simp
      with_reducible rfl
     rotate_left
     ·simp only [Act.put,List.setIfInBounds_toArray,List.set_cons_zero,List.set_cons_succ,i64_w,i32_w]
      rfl
     refine one_ (i:=7) (N:=some 23) #[true,true,true,true,true,true,true,true,true,true,true,true,true,true,false,true,true,false,false,false,false] rfl rfl (one_of HT_.out (by kernel_rfl)) (by decide) (fun K hK=>?_)
     refine goes_ Tryd.func53 (by kernel_rfl) rfl #[.int .i64 a0_0,.int .i64 a0_1] (by rfl) rfl rfl (by (try simp only [List.map_toArray,List.map_cons,List.map_nil]);first|done|rfl|(simp only [List.length_drop,List.length_take];rfl)) ?_
     with_reducible refine (unified_first.calls a0_0 a0_1 t117 _ A11.out).mono ?_
     rintro e w' ⟨rfl,⟨nd,rfl⟩⟩
     refine ⟨_,rfl,?_⟩
     refine hK.out _ _ ⟨(blk_cell BK113.out 0).trans rfl,(blk_cell BK113.out 1).trans rfl,(blk_cell BK113.out 2).trans rfl,(blk_cell BK113.out 3).trans rfl,(blk_cell BK113.out 4).trans rfl⟩ (fun hHeld=>?_)
     clear hK K
     refine norm_ (a':=?_) ?_ ?_
     rotate_left
     ·show Act.put _ (some 23) _=_
      simp only [Act.put,List.setIfInBounds_toArray,List.set_cons_zero,List.set_cons_succ,i64_w,i32_w]
      rfl
     refine one_ (i:=14) (N:=some 30) #[true,true,true,true,true,true,true,true,true,true,true,true,true,true,true,true,true,false,false,false,false] rfl rfl (one_of HT_.out (by kernel_rfl)) (by decide) (fun K hK=>?_)
     refine goes_ Tryd.func53 (by kernel_rfl) rfl #[.int .i64 a0_2,.int .i64 a0_3] (by rfl) rfl rfl (by (try simp only [List.map_toArray,List.map_cons,List.map_nil]);first|done|rfl|(simp only [List.length_drop,List.length_take];rfl)) ?_
     with_reducible refine (unified_first.calls a0_2 a0_3 t118 _ A12.out).mono ?_
     rintro e w' ⟨rfl,⟨nd,rfl⟩⟩
     refine ⟨_,rfl,?_⟩
     refine hK.out _ _ ⟨(blk_cell BK113.out 0).trans rfl,(blk_cell BK113.out 1).trans rfl,(blk_cell BK113.out 2).trans rfl,(blk_cell BK113.out 3).trans rfl,(blk_cell BK113.out 4).trans rfl⟩ (fun hHeld=>?_)
     clear hK K
     refine norm_ (a':=?_) ?_ ?_
     rotate_left
     ·show Act.put _ (some 30) _=_
      simp only [Act.put,List.setIfInBounds_toArray,List.set_cons_zero,List.set_cons_succ,i64_w,i32_w]
      rfl
     refine pure_ (i:=17) (N:=some 33) (v:=?_) (a':=?_) #[true,true,true,true,true,true,true,true,true,true,true,true,true,true,true,true,true,true,false,false,false] rfl rfl (any_of HT_.out (by kernel_rfl)) (fun _ _ _ h=>h) (Or.inl ⟨by rfl,?_⟩) ?_ ?_
     rotate_left
     ·intro w'
      go_simp
      with_reducible rfl
     rotate_left
     ·simp only [Act.put,List.setIfInBounds_toArray,List.set_cons_zero,List.set_cons_succ,i64_w,i32_w]
      rfl
     refine pure_ (i:=18) (N:=some 34) (v:=?_) (a':=?_) #[true,true,true,true,true,true,true,true,true,true,true,true,true,true,true,true,true,true,true,false,false] rfl rfl (any_of HT_.out (by kernel_rfl)) (fun _ _ _ h=>h) (Or.inl ⟨by rfl,?_⟩) ?_ ?_
     rotate_left
     ·intro w'
      go_simp
      with_reducible rfl
     rotate_left
     ·simp only [Act.put,List.setIfInBounds_toArray,List.set_cons_zero,List.set_cons_succ,i64_w,i32_w]
      rfl
     refine pure_ (i:=19) (N:=some 35) (v:=?_) (a':=?_) #[true,true,true,true,true,true,true,true,true,true,true,true,true,true,true,true,true,true,true,true,false] rfl rfl (any_of HT_.out (by kernel_rfl)) (fun _ _ _ h=>h) (Or.inl ⟨by rfl,?_⟩) ?_ ?_
     rotate_left
     ·intro w'
      go_simp
      with_reducible rfl
     rotate_left
     ·simp only [Act.put,List.setIfInBounds_toArray,List.set_cons_zero,List.set_cons_succ,i64_w,i32_w]
      rfl
     refine pure_ (i:=20) (N:=some 2) (v:=?_) (a':=?_) #[true,true,true,true,true,true,true,true,true,true,true,true,true,true,true,true,true,true,true,true,true] rfl rfl (any_of HT_.out (by kernel_rfl)) (fun _ _ _ h=>h) (Or.inl ⟨by rfl,?_⟩) ?_ ?_
     rotate_left
     ·intro w'
      go_simp
      with_reducible rfl
     rotate_left
     ·simp only [Act.put,List.setIfInBounds_toArray,List.set_cons_zero,List.set_cons_succ,i64_w,i32_w]
      rfl
     refine done_ (done_of HT_.out (by kernel_rfl)) ?_
     try go_wp2
     go_ret
     exact ⟨by first|rfl|(simp [errW_none,errW_some]<;>rfl)|(simp only [← hji13,← hji14,← hji15];first|rfl|(simp [errW_none,errW_some]<;>rfl))|(simp [*,errW_none,errW_some]<;>rfl),by repeat (first|(with_reducible first|exact HB.out|apply below_alloc|apply pw_below_drewN|apply below_drew1|refine below_set ?_ GE113.out)|exact HB.out)⟩
    ·replace c10:=Bool.eq_false_iff.mpr c10
     subst c10
     have H1:(some false)=some r:=by rw [if_neg (show ¬ (false=true) by decide)] at H;exact H
     clear H
     have H:=H1
     clear H1
     obtain rfl:=Option.some.inj H
     try go_wp2
     have n0_:=Aside0.mk (blk_drew BK113.out)
     have n1_:=Aside0.mk (below_drew1 HB.out)
     clear BK113
     clear HB
     have BK113:=n0_
     have HB:=n1_
     clear n0_ n1_
     refine start_ (n:=21) (S:=fun w'=>w'.cell? ⟨gb113,0,none⟩=some (.int .i64 a0_0)∧w'.cell? ⟨gb113,1,none⟩=some (.int .i64 a0_1)∧w'.cell? ⟨gb113,2,none⟩=some (.int .i64 a0_2)∧w'.cell? ⟨gb113,3,none⟩=some (.int .i64 a0_3)∧w'.cell? ⟨gb113,4,none⟩=some (.slice A0_4 l0_4.length c0_4)) (ds:=[]) #[false,false,false,false,false,false,false,false,false,false,false,false,false,false,false,false,false,false,false,false,false] (by kernel_rfl) rfl rfl ⟨(blk_cell BK113.out 0).trans rfl,(blk_cell BK113.out 1).trans rfl,(blk_cell BK113.out 2).trans rfl,(blk_cell BK113.out 3).trans rfl,(blk_cell BK113.out 4).trans rfl⟩ (fun hHeld=>?_);refine with_tabW unified_can.tab7 unified_can.bits7 (fun HT_ HW_=>?_)
     generalize wr.drew=w18 at BK113 HB hHeld ⊢
     refine take_ (i:=0) (N:=some 16) (v:=?_) (a':=?_) #[true,false,false,false,false,false,false,false,false,false,false,false,false,false,false,false,false,false,false,false,false] rfl rfl (take_ofW HT_.out HW_.out (by kernel_rfl)) (fun _ _ _ h=>h) (Or.inl ⟨by rfl,?_⟩) hHeld ?_ ?_
     rotate_left
     ·rintro w' ⟨s0,s1,s2,s3,s4⟩
      go_simp
      with_reducible rfl
     rotate_left
     ·simp only [Act.put,List.setIfInBounds_toArray,List.set_cons_zero,List.set_cons_succ,i64_w,i32_w]
      rfl
     refine one_ (i:=1) (N:=some 17) #[true,true,false,false,false,false,false,false,false,false,false,false,false,false,false,false,false,false,false,false,false] rfl rfl (one_of HT_.out (by kernel_rfl)) (by decide) (fun K hK=>?_)
     refine goes_ Tryd.func52 (by kernel_rfl) rfl #[.agg #[.int .i64 a0_0,.int .i64 a0_1,.int .i64 a0_2,.int .i64 a0_3,.slice A0_4 l0_4.length c0_4]] (by rfl) rfl rfl (by (try simp only [List.map_toArray,List.map_cons,List.map_nil]);first|done|rfl|(simp only [List.length_drop,List.length_take];rfl)) ?_
     with_reducible refine (hunk_Right.calls k1 a0_0 a0_1 a0_2 a0_3 _ _ l0_4 false _ ?side1 ?side2 A9.out).mono ?_
     (case side1=>repeat (first|exact (Kd.C_below HR0_4.out HB.out)|(with_reducible refine Kd.C_alloc ?_ _)|(with_reducible refine Kd.C_drewN ?_ _)|(with_reducible refine Kd.C_drew ?_)))
     (case side2=>exact HC0_4.out)
     rintro e w19 ⟨rfl,hb⟩
     refine ⟨_,rfl,?_⟩
     have n0_:=Aside0.mk (blk_below (g:=gb113) (o:=.cells #[.int .i64 a0_0,.int .i64 a0_1,.int .i64 a0_2,.int .i64 a0_3,.slice A0_4 l0_4.length c0_4] 41 (0,0)) (by (with_reducible repeat (first|refine blk_drewN ?_ _|refine blk_drew ?_|refine blk_alloc ?_ _));exact BK113.out) hb)
     have n1_:=Aside0.mk (below_step (by repeat (first|(with_reducible first|exact HB.out|apply below_alloc|apply pw_below_drewN|apply below_drew1|refine below_set ?_ GE113.out)|exact HB.out)) hb)
     clear BK113
     clear HB
     have BK113:=n0_
     have HB:=n1_
     clear n0_ n1_
     (try clear hb)
     (try clear hb2)
     (try clear hk)
     (try clear hi)
     refine hK.out _ _ ⟨(blk_cell BK113.out 0).trans rfl,(blk_cell BK113.out 1).trans rfl,(blk_cell BK113.out 2).trans rfl,(blk_cell BK113.out 3).trans rfl,(blk_cell BK113.out 4).trans rfl⟩ (fun hHeld=>?_)
     clear hK K
     refine norm_ (a':=?_) ?_ ?_
     rotate_left
     ·show Act.put _ (some 17) _=_
      simp only [Act.put,List.setIfInBounds_toArray,List.set_cons_zero,List.set_cons_succ,i64_w,i32_w]
      rfl
     refine pure_ (i:=2) (N:=some 18) (v:=?_) (a':=?_) #[true,true,true,false,false,false,false,false,false,false,false,false,false,false,false,false,false,false,false,false,false] rfl rfl (any_of HT_.out (by kernel_rfl)) (fun _ _ _ h=>h) (Or.inl ⟨by rfl,?_⟩) ?_ ?_
     rotate_left
     ·intro w'
      go_simp
      with_reducible rfl
     rotate_left
     ·simp only [Act.put,List.setIfInBounds_toArray,List.set_cons_zero,List.set_cons_succ,i64_w,i32_w]
      rfl
     refine pure_ (i:=3) (N:=some 19) (v:=undef) (a':=?_) #[true,true,true,true,false,false,false,false,false,false,false,false,false,false,false,false,false,false,false,false,false] rfl rfl (any_of HT_.out (by kernel_rfl)) (fun _ _ _ h=>h) (Or.inr ⟨by rfl,rfl⟩) ?_ ?_
     rotate_left
     ·simp only [Act.put,List.setIfInBounds_toArray,List.set_cons_zero,List.set_cons_succ,i64_w,i32_w]
      rfl
     refine pure_ (i:=4) (N:=some 20) (v:=undef) (a':=?_) #[true,true,true,true,true,false,false,false,false,false,false,false,false,false,false,false,false,false,false,false,false] rfl rfl (any_of HT_.out (by kernel_rfl)) (fun _ _ _ h=>h) (Or.inr ⟨by rfl,rfl⟩) ?_ ?_
     rotate_left
     ·simp only [Act.put,List.setIfInBounds_toArray,List.set_cons_zero,List.set_cons_succ,i64_w,i32_w]
      rfl
     refine pure_ (i:=5) (N:=some 21) (v:=undef) (a':=?_) #[true,true,true,true,true,true,false,false,false,false,false,false,false,false,false,false,false,false,false,false,false] rfl rfl (any_of HT_.out (by kernel_rfl)) (fun _ _ _ h=>h) (Or.inr ⟨by rfl,rfl⟩) ?_ ?_
     rotate_left
     ·simp only [Act.put,List.setIfInBounds_toArray,List.set_cons_zero,List.set_cons_succ,i64_w,i32_w]
      rfl
     refine pure_ (i:=6) (N:=some 22) (v:=undef) (a':=?_) #[true,true,true,true,true,true,true,false,false,false,false,false,false,false,false,false,false,false,false,false,false] rfl rfl (any_of HT_.out (by kernel_rfl)) (fun _ _ _ h=>h) (Or.inr ⟨by rfl,rfl⟩) ?_ ?_
     rotate_left
     ·simp only [Act.put,List.setIfInBounds_toArray,List.set_cons_zero,List.set_cons_succ,i64_w,i32_w]
      rfl
     refine pure_ (i:=7) (N:=some 23) (v:=undef) (a':=?_) #[true,true,true,true,true,true,true,true,false,false,false,false,false,false,false,false,false,false,false,false,false] rfl rfl (any_of HT_.out (by kernel_rfl)) (fun _ _ _ h=>h) (Or.inr ⟨by rfl,rfl⟩) ?_ ?_
     rotate_left
     ·simp only [Act.put,List.setIfInBounds_toArray,List.set_cons_zero,List.set_cons_succ,i64_w,i32_w]
      rfl
     refine pure_ (i:=8) (N:=some 24) (v:=undef) (a':=?_) #[true,true,true,true,true,true,true,true,true,false,false,false,false,false,false,false,false,false,false,false,false] rfl rfl (any_of HT_.out (by kernel_rfl)) (fun _ _ _ h=>h) (Or.inr ⟨by rfl,rfl⟩) ?_ ?_
     rotate_left
     ·simp only [Act.put,List.setIfInBounds_toArray,List.set_cons_zero,List.set_cons_succ,i64_w,i32_w]
      rfl
     refine pure_ (i:=9) (N:=some 25) (v:=undef) (a':=?_) #[true,true,true,true,true,true,true,true,true,true,false,false,false,false,false,false,false,false,false,false,false] rfl rfl (any_of HT_.out (by kernel_rfl)) (fun _ _ _ h=>h) (Or.inr ⟨by rfl,rfl⟩) ?_ ?_
     rotate_left
     ·simp only [Act.put,List.setIfInBounds_toArray,List.set_cons_zero,List.set_cons_succ,i64_w,i32_w]
      rfl
     refine pure_ (i:=10) (N:=some 26) (v:=undef) (a':=?_) #[true,true,true,true,true,true,true,true,true,true,true,false,false,false,false,false,false,false,false,false,false] rfl rfl (any_of HT_.out (by kernel_rfl)) (fun _ _ _ h=>h) (Or.inr ⟨by rfl,rfl⟩) ?_ ?_
     rotate_left
     ·simp only [Act.put,List.setIfInBounds_toArray,List.set_cons_zero,List.set_cons_succ,i64_w,i32_w]
      rfl
     refine pure_ (i:=11) (N:=some 27) (v:=undef) (a':=?_) #[true,true,true,true,true,true,true,true,true,true,true,true,false,false,false,false,false,false,false,false,false] rfl rfl (any_of HT_.out (by kernel_rfl)) (fun _ _ _ h=>h) (Or.inr ⟨by rfl,rfl⟩) ?_ ?_
     rotate_left
     ·simp only [Act.put,List.setIfInBounds_toArray,List.set_cons_zero,List.set_cons_succ,i64_w,i32_w]
      rfl
     refine pure_ (i:=12) (N:=some 28) (v:=undef) (a':=?_) #[true,true,true,true,true,true,true,true,true,true,true,true,true,false,false,false,false,false,false,false,false] rfl rfl (any_of HT_.out (by kernel_rfl)) (fun _ _ _ h=>h) (Or.inr ⟨by rfl,rfl⟩) ?_ ?_
     rotate_left
     ·simp only [Act.put,List.setIfInBounds_toArray,List.set_cons_zero,List.set_cons_succ,i64_w,i32_w]
      rfl
     refine pure_ (i:=13) (N:=some 29) (v:=undef) (a':=?_) #[true,true,true,true,true,true,true,true,true,true,true,true,true,true,false,false,false,false,false,false,false] rfl rfl (any_of HT_.out (by kernel_rfl)) (fun _ _ _ h=>h) (Or.inr ⟨by rfl,rfl⟩) ?_ ?_
     rotate_left
     ·simp only [Act.put,List.setIfInBounds_toArray,List.set_cons_zero,List.set_cons_succ,i64_w,i32_w]
      rfl
     refine pure_ (i:=14) (N:=some 30) (v:=undef) (a':=?_) #[true,true,true,true,true,true,true,true,true,true,true,true,true,true,true,false,false,false,false,false,false] rfl rfl (any_of HT_.out (by kernel_rfl)) (fun _ _ _ h=>h) (Or.inr ⟨by rfl,rfl⟩) ?_ ?_
     rotate_left
     ·simp only [Act.put,List.setIfInBounds_toArray,List.set_cons_zero,List.set_cons_succ,i64_w,i32_w]
      rfl
     refine pure_ (i:=15) (N:=some 31) (v:=undef) (a':=?_) #[true,true,true,true,true,true,true,true,true,true,true,true,true,true,true,true,false,false,false,false,false] rfl rfl (any_of HT_.out (by kernel_rfl)) (fun _ _ _ h=>h) (Or.inr ⟨by rfl,rfl⟩) ?_ ?_
     rotate_left
     ·simp only [Act.put,List.setIfInBounds_toArray,List.set_cons_zero,List.set_cons_succ,i64_w,i32_w]
      rfl
     refine pure_ (i:=16) (N:=some 32) (v:=undef) (a':=?_) #[true,true,true,true,true,true,true,true,true,true,true,true,true,true,true,true,true,false,false,false,false] rfl rfl (any_of HT_.out (by kernel_rfl)) (fun _ _ _ h=>h) (Or.inr ⟨by rfl,rfl⟩) ?_ ?_
     rotate_left
     ·simp only [Act.put,List.setIfInBounds_toArray,List.set_cons_zero,List.set_cons_succ,i64_w,i32_w]
      rfl
     refine pure_ (i:=17) (N:=some 33) (v:=undef) (a':=?_) #[true,true,true,true,true,true,true,true,true,true,true,true,true,true,true,true,true,true,false,false,false] rfl rfl (any_of HT_.out (by kernel_rfl)) (fun _ _ _ h=>h) (Or.inr ⟨by rfl,rfl⟩) ?_ ?_
     rotate_left
     ·simp only [Act.put,List.setIfInBounds_toArray,List.set_cons_zero,List.set_cons_succ,i64_w,i32_w]
      rfl
     refine pure_ (i:=18) (N:=some 34) (v:=undef) (a':=?_) #[true,true,true,true,true,true,true,true,true,true,true,true,true,true,true,true,true,true,true,false,false] rfl rfl (any_of HT_.out (by kernel_rfl)) (fun _ _ _ h=>h) (Or.inr ⟨by rfl,rfl⟩) ?_ ?_
     rotate_left
     ·simp only [Act.put,List.setIfInBounds_toArray,List.set_cons_zero,List.set_cons_succ,i64_w,i32_w]
      rfl
     refine pure_ (i:=19) (N:=some 35) (v:=?_) (a':=?_) #[true,true,true,true,true,true,true,true,true,true,true,true,true,true,true,true,true,true,true,true,false] rfl rfl (any_of HT_.out (by kernel_rfl)) (fun _ _ _ h=>h) (Or.inl ⟨by rfl,?_⟩) ?_ ?_
     rotate_left
     ·intro w'
      go_simp
      with_reducible rfl
     rotate_left
     ·simp only [Act.put,List.setIfInBounds_toArray,List.set_cons_zero,List.set_cons_succ,i64_w,i32_w]
      rfl
     refine pure_ (i:=20) (N:=some 2) (v:=?_) (a':=?_) #[true,true,true,true,true,true,true,true,true,true,true,true,true,true,true,true,true,true,true,true,true] rfl rfl (any_of HT_.out (by kernel_rfl)) (fun _ _ _ h=>h) (Or.inl ⟨by rfl,?_⟩) ?_ ?_
     rotate_left
     ·intro w'
      go_simp
      with_reducible rfl
     rotate_left
     ·simp only [Act.put,List.setIfInBounds_toArray,List.set_cons_zero,List.set_cons_succ,i64_w,i32_w]
      rfl
     refine done_ (done_of HT_.out (by kernel_rfl)) ?_
     try go_wp2
     go_ret
     exact ⟨by first|rfl|(simp [errW_none,errW_some]<;>rfl)|(simp [*,errW_none,errW_some]<;>rfl),by repeat (first|(with_reducible first|exact HB.out|apply below_alloc|apply pw_below_drewN|apply below_drew1|refine below_set ?_ GE113.out)|exact HB.out)⟩




end Go.Proofs.YtamojbfmphainaaDoor.Pr
-- shrunk
/-
unified.Print.
-/
namespace Go.Proofs.YtamojbfmphainaaDoor.Pr
open Go.RowKit Go.Proofs.YtamojbfmphainaaDoorW.PrintWords Go.Proofs.YtamojbfmphainaaDoorW.PrintLast Go.Proofs.YtamojbfmphainaaDoorW.PrintMore
theorem fromB_size {a b:Int} (h0:0≤a) (h1:a≤2147483648) (h2:0≤b) (h3:b≤2147483648):(fromB a b).size≤50:=by
 have e1:(itoaB (firstI a b)).size≤21:=itoaB_size _ (by rw [firstI];split<;>omega) (by rw [firstI];split<;>omega)
 have e2:(itoaB b).size≤21:=itoaB_size _ (by omega) (by omega)
 rw [fromB,ByteArray.size_append,ByteArray.size_append]
 show (itoaB (firstI a b)).size+1+(itoaB b).size≤50
 omega
def headOf (x:S41):ByteArray:=(⟨#[64,64,32,45]⟩:ByteArray)++fromB x.f0 x.f1++(⟨#[32,43]⟩:ByteArray)++fromB x.f2 x.f3++(⟨#[32,64,64]⟩:ByteArray)++(⟨#[10]⟩:ByteArray)
def tailB:ByteArray:=⟨#[10,92,32,78,111,32,110,101,119,108,105,110,101,32,97,116,32,101,110,100,32,111,102,32,102,105,108,101,10]⟩
def lineOf (s:ByteArray):ByteArray:=if closedL s.data.toList=true then s else s++tailB
def bodyOf:List ByteArray→ByteArray→ByteArray
 | [],out=>out
 | s :: r,out=>bodyOf r (out++lineOf s)
def printL (can:S41→Bool):List S41→ByteArray→ByteArray
 | [],out=>out
 | x :: r,out=>if can x=true then printL can r (bodyOf x.f4 (out++headOf x)) else ⟨#[]⟩
theorem bld_below {T e:TypeId} {B b:Nat} {bs:List Value} {w w':World} (h:Lib.IsBuilderF T e B b bs w) (hb:Below w.heap.size w w'):Lib.IsBuilderF T e B b bs w':=by
 have key:∀ p,Lib.BuilderAtF T e B b p bs w→Lib.BuilderAtF T e B b p bs w':=by
  rintro p ⟨hB,v,hbk,⟨h1,h2⟩,hne⟩
  refine ⟨hB,v,blk_below hbk hb,⟨h1,?_⟩,hne⟩
  rcases h2 with h2|⟨g,cap,cur,fz,hv,hbg,hg,r⟩
  ·exact .inl h2
  ·exact .inr ⟨g,cap,cur,fz,hv,hbg,(hb.block g (Array.getElem?_eq_some_iff.1 hg).1).trans hg,r⟩
 exact h.imp (key _) (key _)
structure PBox (w:World) (b:Nat) (out:ByteArray) (wr:World):Prop where
 bld:Lib.IsBuilderF 47 5 w.heap.size b (Lib.byteCells out.data.toList) wr
 bel:Below w.heap.size w wr
theorem PBox.below {w:World} {b:Nat} {out:ByteArray} {wr w1:World} (h:PBox w b out wr) (hb:Below wr.heap.size wr w1):PBox w b out w1:=⟨bld_below h.bld hb,below_then h.bel h.bel.size hb⟩
theorem PBox.blk {w:World} {b:Nat} {out:ByteArray} {wr:World} (h:PBox w b out wr):∃ cs,wr.heap[b]?=some (.cells cs 47 (0,0)):=by
 rcases h.bld with ⟨_,v,h1,_⟩|⟨_,v,h1,_⟩
 ·exact ⟨_,h1⟩
 ·exact ⟨_,h1⟩
theorem pwrite (w:World) (b:Nat) (out s:ByteArray) (wr:World) (h:PBox w b out wr) (hs:out.size+s.size≤140737488355328) :
  Calls Tryd.prog 23 #[.pointer (some ⟨b,0,none⟩),.string s] wr fun e w'=>e=.returned (.tuple #[.int .i64 s.size,.nilIface])∧PBox w b (out++s) w'∧Lib.OthersKept 5 (some b) wr w' :=
 (bld_write w.heap.size b (Lib.byteCells out.data.toList) s wr h.bld (by rw [Lib.byteCells_length];exact hs) h.bel.size).mono fun e w' hh=>⟨hh.1,⟨by
  have h1:=hh.2.1
  rw [show Lib.strCells s=Lib.byteCells s.data.toList from rfl,← Lib.byteCells_append] at h1
  have e1:(out++s).data.toList=out.data.toList++s.data.toList:=by rw [ByteArray.data_append,Array.toList_append]
  rw [e1];exact h1,h.bel.trans hh.2.2.1⟩,hh.2.2.2⟩
def PrintEnd (can:S41→Bool) (l:List S41) (w:World) (e:Ending) (w':World):Prop:=e=.returned (.string (printL can l ⟨#[]⟩))∧Below w.heap.size w w'
def gprint_7.T7:Bool × List (List Nat × List Nat):=(true,[([],[]),([0],[0]),([],[]),([2],[2]),([1,3],[1,3]),([4],[4]),([5],[5]),([],[]),([7],[7]),([],[]),([9],[9]),([8,10,4],[8,10]),([6,11],[6,11]),([12],[12]),([13],[13]),([14,11],[14])])
def gprint_7.B7:List Nat:=[0,1,0,4,15,31,63,0,128,0,512,1951,4095,8191,16383,32767]
theorem gprint_7.tab7:rtab .any (opsOf Tryd.f10 7)=gprint_7.T7:=by kernel_rfl
theorem gprint_7.bits7:waitsOk gprint_7.T7.2 gprint_7.B7=true:=by kernel_rfl
set_option maxRecDepth 100000 in
set_option maxHeartbeats 8000000 in
theorem print_calls (can:S41→Bool) (A:Option Addr) (c:Nat) (l:List S41) (w:World) (hL:LaidU w) (hr:Kd.C k41 w A l.length l) (hc:l.length≤c)
  (hcan:∀ x ∈ l,Ev (fun k=>unified_can.f k x.f0 x.f1 x.f2 x.f3 x.f4) (can x)) (hok:∀ x ∈ l,can x=true→0≤x.f0∧x.f0≤2147483648∧0≤x.f1∧x.f1≤2147483648∧0≤x.f2∧x.f2≤2147483648∧0≤x.f3∧x.f3≤2147483648)
  (hl:l.length≤1024) (hx:∀ x ∈ l,x.f4.length≤1024∧∀ s ∈ x.f4,s.size≤1048576) :
  Calls Tryd.prog 10 #[.slice A l.length c] w (PrintEnd can l w):=by
 have HL:=Aside0.mk hL
 have HR:=Aside0.mk hr
 have HC:=Aside0.mk hc
 have HCAN:=Aside0.mk hcan
 have HOK:=Aside0.mk hok
 have HX:=Aside0.mk hx
 have HFR:=Aside0.mk (show PBox w w.heap.size ⟨#[]⟩ (w.alloc (.cells #[.pointer none,.slice none 0 0] 47 (0,0))) from ⟨Lib.IsBuilderF.of (Lib.fresh_isBuilder 47 5 w),below_alloc (Below.refl _ _) _⟩)
 obtain ⟨R,hR⟩:∃ R,R=printL can l ⟨#[]⟩:=⟨_,rfl⟩
 have HE:=Aside0.mk (show ∀ e w',e=.returned (.string R)→Below w.heap.size w w'→PrintEnd can l w e w' from fun e w' h1 h2=>⟨by rw [h1,hR],h2⟩)
 have HQ0:=Aside0.mk hR.symm
 clear hL hr hc hcan hok hx hR
 go_enter Tryd.func10,Tryd.ntmps10
 go_upto_block 0 with (fail)
 generalize hw0:w.alloc (.cells #[.pointer none,.slice none 0 0] 47 (0,0))=w0 at HFR ⊢
 generalize hgg:w.heap.size=b at HFR HE ⊢
 have HGG:=Aside0.mk hgg
 clear hgg hw0
 go_wp2_with (fail)
 go_loopg [10] l.length (fun kq v10 wr=>∃ (i:Nat) (out:ByteArray),v10=.int .i64 (i:Int)∧Aside0 (i≤l.length∧l.length≤kq+i∧out.size≤i * 1100000000)∧Aside0 (printL can (l.drop i) out=R)∧Aside0 (PBox w b out wr))
 case atStart=>exact ⟨0,⟨#[]⟩,rfl,⟨by omega,by omega,Nat.zero_le _⟩,HQ0,HFR⟩
 case round =>
  clear HFR HQ0
  obtain ⟨i,out,rfl,HB,HQ,HP⟩:=hrel
  by_cases hend:i=l.length
  ·as_aux_lemma =>
   have f2:decide (i<l.length)=false:=decide_eq_false (by omega)
   have HQ2:=Aside0.mk (show out=R by rw [← HQ.out,List.drop_of_length_le (by omega)];rfl)
   have CS:=Aside0.mk (Tryd.Builder_String_any_f w.heap.size b out.data.toList wr HP.out.bld HP.out.bel.size)
   clear hend
   go_wp2_with (go_at_call 26;(with_reducible refine CS.out.mono ?_);rintro e w1 ⟨rfl,hk,hb⟩;have HB1:=Aside0.mk hb;clear hk hb)
   go_ret
   exact HE.out _ _ (by rw [← HQ2.out];first|done|rfl) (by have h_:=HP.out.bel.trans HB1.out;rw [HGG.out] at h_;exact h_)
  ·have hxl:i<l.length:=by have:=HB.out;omega
   obtain ⟨gk',HGk⟩:∃ m,Aside0 (gk=m+1):=⟨gk - 1,⟨by have:=HB.out;omega⟩⟩
   have f2:decide (i<l.length)=true:=decide_eq_true hxl
   obtain ⟨ad,A4,c4,ea,y0,y1,y2,y3,y4,hc4,hr4⟩:=at_T41 HR.out (i:Int) (by omega) (by omega)
   cases ea
   obtain ⟨x,hx⟩:∃ x,x=rd_T41 l (i:Int):=⟨_,rfl⟩
   have hxi:l[i]?=some x:=by rw [hx,rd_T41,Int.toNat_natCast,List.getD_eq_getElem?_getD,List.getElem?_eq_getElem hxl];rfl
   rw [← hx] at y0 y1 y2 y3 y4 hc4 hr4
   simp only [Int.toNat_natCast] at y0 y1 y2 y3 y4
   replace y0:=pw_cell_below HP.out.bel y0
   replace y1:=pw_cell_below HP.out.bel y1
   replace y2:=pw_cell_below HP.out.bel y2
   replace y3:=pw_cell_below HP.out.bel y3
   replace y4:=pw_cell_below HP.out.bel y4
   have HXI:=Aside0.mk hxi
   have HC4:=Aside0.mk hc4
   have HR4:=Aside0.mk hr4
   have kx:IntKind.i64.wrap ((i:Int)+1)=(i:Int)+1:=IntWalk.i64_in _ (by omega)
   clear hx hxi hc4 hr4 hend
   go_upto_region 5 with (fail)
   have HBX:=Aside0.mk (blk_new wr (.cells #[.int .i64 x.f0,.int .i64 x.f1,.int .i64 x.f2,.int .i64 x.f3,.slice A4 x.f4.length c4] 41 (0,0)))
   have HP1:=Aside0.mk (HP.out.below (below_alloc (Below.refl _ _) (.cells #[.int .i64 x.f0,.int .i64 x.f1,.int .i64 x.f2,.int .i64 x.f3,.slice A4 x.f4.length c4] 41 (0,0))))
   have HR5:=Aside0.mk (Kd.C_below HR4.out HP1.out.bel)
   generalize wr.alloc (.cells #[.int .i64 x.f0,.int .i64 x.f1,.int .i64 x.f2,.int .i64 x.f3,.slice A4 x.f4.length c4] 41 (0,0))=W1 at HBX HP1 HR5 ⊢
   generalize wr.heap.size=g at HBX ⊢
   clear y0 y1 y2 y3 y4
   have hmem:x ∈ l:=List.mem_of_getElem? HXI.out
   obtain ⟨kc,hkc⟩:=(HCAN.out x hmem).rounds
   have HD:=Aside0.mk (show l.drop i=x :: l.drop (i+1) by
    have h_:=HXI.out
    rw [List.getElem?_eq_getElem hxl] at h_
    rw [List.drop_eq_getElem_cons hxl,Option.some.inj h_])
   have z0:W1.cell? ⟨g,0,none⟩=some (.int .i64 x.f0):=(blk_cell HBX.out 0).trans rfl
   have z1:W1.cell? ⟨g,1,none⟩=some (.int .i64 x.f1):=(blk_cell HBX.out 1).trans rfl
   have z2:W1.cell? ⟨g,2,none⟩=some (.int .i64 x.f2):=(blk_cell HBX.out 2).trans rfl
   have z3:W1.cell? ⟨g,3,none⟩=some (.int .i64 x.f3):=(blk_cell HBX.out 3).trans rfl
   have z4:W1.cell? ⟨g,4,none⟩=some (.slice A4 x.f4.length c4):=(blk_cell HBX.out 4).trans rfl
   by_cases hcx:can x=true
   ·have CC:=Aside0.mk (unified_can.calls kc x.f0 x.f1 x.f2 x.f3 A4 c4 x.f4 true W1 HR5.out HC4.out (by rw [← hcx];exact hkc))
    have HOX:=Aside0.mk (HOK.out x hmem hcx)
    have HXX:=Aside0.mk (HX.out x hmem)
    have HQ2:=Aside0.mk (show printL can (l.drop (i+1)) (bodyOf x.f4 (out++headOf x))=R by rw [← HQ.out,HD.out,printL,if_pos hcx])
    clear hcx hkc hmem
    go_upto_region 7 with (go_at_call 22;(with_reducible refine CC.out.mono ?_);rintro e w2 ⟨rfl,hb⟩;have HP2:=Aside0.mk (HP1.out.below hb);have HB2X:=Aside0.mk (blk_below HBX.out hb);clear hb)
    have HL2:=Aside0.mk (HL.out.below HP2.out.bel)
    have HNG:=Aside0.mk (show g≠b from by obtain ⟨cs,h_⟩:=HP2.out.blk;exact blk_ne HB2X.out h_ (by decide))
    clear z0 z1 z2 z3 z4
    obtain ⟨f1,hf1⟩:∃ f,f=fromB x.f0 x.f1:=⟨_,rfl⟩
    obtain ⟨f2,hf2⟩:∃ f,f=fromB x.f2 x.f3:=⟨_,rfl⟩
    have hs1:f1.size≤50:=by rw [hf1];exact fromB_size (by have:=HOX.out;omega) (by have:=HOX.out;omega) (by have:=HOX.out;omega) (by have:=HOX.out;omega)
    have hs2:f2.size≤50:=by rw [hf2];exact fromB_size (by have:=HOX.out;omega) (by have:=HOX.out;omega) (by have:=HOX.out;omega) (by have:=HOX.out;omega)
    have F1:=Aside0.mk (show ∀ W,LaidU W→Calls Tryd.prog 24 #[.int .i64 x.f0,.int .i64 x.f1] W fun e w'=>e=.returned (.string f1)∧Below W.heap.size W w' by intro W hW;rw [hf1];exact from_calls x.f0 x.f1 (by have:=HOX.out;omega) (by have:=HOX.out;omega) (by have:=HOX.out;omega) (by have:=HOX.out;omega) W hW)
    have F2:=Aside0.mk (show ∀ W,LaidU W→Calls Tryd.prog 24 #[.int .i64 x.f2,.int .i64 x.f3] W fun e w'=>e=.returned (.string f2)∧Below W.heap.size W w' by intro W hW;rw [hf2];exact from_calls x.f2 x.f3 (by have:=HOX.out;omega) (by have:=HOX.out;omega) (by have:=HOX.out;omega) (by have:=HOX.out;omega) W hW)
    have HHD:=Aside0.mk (show headOf x=(⟨#[64,64,32,45]⟩:ByteArray)++f1++(⟨#[32,43]⟩:ByteArray)++f2++(⟨#[32,64,64]⟩:ByteArray)++(⟨#[10]⟩:ByteArray) by rw [headOf,← hf1,← hf2])
    have n1:(9223372036854775807<4+f1.size)=False:=eq_false (by omega)
    have n2:(9223372036854775807<4+f1.size+2)=False:=eq_false (by omega)
    have n3:(9223372036854775807<4+f1.size+2+f2.size)=False:=eq_false (by omega)
    have n4:(9223372036854775807<4+f1.size+2+f2.size+3)=False:=eq_false (by omega)
    have n5:(9223372036854775807<4+f1.size+2+f2.size+3+1)=False:=eq_false (by omega)
    have hho:(headOf x).size≤200:=by rw [HHD.out];simp only [ByteArray.size_append];show 4+f1.size+2+f2.size+3+1≤200;omega
    have HHO:=Aside0.mk hho
    have HFF:=Aside0.mk (And.intro hf1 hf2)
    obtain ⟨n0,hn0⟩:∃ n0:Int,n0=((headOf x).size:Int):=⟨_,rfl⟩
    have PW7:=Aside0.mk (show ∀ W,PBox w b out W→Calls Tryd.prog 23 #[.pointer (some ⟨b,0,none⟩),.string ((⟨#[64,64,32,45]⟩:ByteArray)++f1++(⟨#[32,43]⟩:ByteArray)++f2++(⟨#[32,64,64]⟩:ByteArray)++(⟨#[10]⟩:ByteArray))] W fun e w'=>e=.returned (.tuple #[.int .i64 n0,.nilIface])∧PBox w b (out++headOf x) w'∧Lib.OthersKept 5 (some b) W w' by
     intro W h
     rw [← HHD.out,hn0]
     exact pwrite w b out _ W h (by have:=HHO.out;have:=HB.out;omega))
    clear hn0
    clear hf1 hf2 hs1 hs2 hho
    have HP3:=Aside0.mk (HP2.out.below (below_drew (Below.refl _ _)))
    have HB3X:=Aside0.mk (blk_below HB2X.out (below_drew (Below.refl _ _)))
    have HL3:=Aside0.mk (HL2.out.below (below_drew (Below.refl _ _)))
    have z0:w2.drew.cell? ⟨g,0,none⟩=some (.int .i64 x.f0):=(blk_cell HB3X.out 0).trans rfl
    have z1:w2.drew.cell? ⟨g,1,none⟩=some (.int .i64 x.f1):=(blk_cell HB3X.out 1).trans rfl
    have z2:w2.drew.cell? ⟨g,2,none⟩=some (.int .i64 x.f2):=(blk_cell HB3X.out 2).trans rfl
    have z3:w2.drew.cell? ⟨g,3,none⟩=some (.int .i64 x.f3):=(blk_cell HB3X.out 3).trans rfl
    refine start_ (n:=16) (S:=fun w'=>w'.cell? ⟨g,0,none⟩=some (.int .i64 x.f0)∧w'.cell? ⟨g,1,none⟩=some (.int .i64 x.f1)∧w'.cell? ⟨g,2,none⟩=some (.int .i64 x.f2)∧w'.cell? ⟨g,3,none⟩=some (.int .i64 x.f3)) (ds:=[15]) #[false,false,false,false,false,false,false,false,false,false,false,false,false,false,false,false] (by kernel_rfl) rfl rfl ⟨z0,z1,z2,z3⟩ (fun hHeld=>?_)
    refine with_tabW gprint_7.tab7 gprint_7.bits7 (fun HT_ HW_=>?_)
    generalize w2.drew=w3 at HP3 HB3X HL3 z0 z1 z2 z3 hHeld ⊢
    refine pure_ (i:=0) (N:=some 17) (v:=?_) (a':=?_) #[true,false,false,false,false,false,false,false,false,false,false,false,false,false,false,false] rfl rfl (any_of HT_.out (by kernel_rfl)) (fun _ _ _ h=>h) (Or.inl ⟨by rfl,?_⟩) ?_ ?_
    rotate_left
    ·intro w'
     go_simp
     with_reducible rfl
    rotate_left
    ·simp only [Act.put,List.setIfInBounds_toArray,List.set_cons_zero,List.set_cons_succ,i64_w,i32_w]
     rfl
    refine pure_ (i:=2) (N:=some 19) (v:=?_) (a':=?_) #[true,false,true,false,false,false,false,false,false,false,false,false,false,false,false,false] rfl rfl (any_of HT_.out (by kernel_rfl)) (fun _ _ _ h=>h) (Or.inl ⟨by rfl,?_⟩) ?_ ?_
    rotate_left
    ·intro w'
     go_simp
     with_reducible rfl
    rotate_left
    ·simp only [Act.put,List.setIfInBounds_toArray,List.set_cons_zero,List.set_cons_succ,i64_w,i32_w]
     rfl
    refine pure_ (i:=7) (N:=some 24) (v:=?_) (a':=?_) #[true,false,true,false,false,false,false,true,false,false,false,false,false,false,false,false] rfl rfl (any_of HT_.out (by kernel_rfl)) (fun _ _ _ h=>h) (Or.inl ⟨by rfl,?_⟩) ?_ ?_
    rotate_left
    ·intro w'
     go_simp
     with_reducible rfl
    rotate_left
    ·simp only [Act.put,List.setIfInBounds_toArray,List.set_cons_zero,List.set_cons_succ,i64_w,i32_w]
     rfl
    refine pure_ (i:=9) (N:=some 26) (v:=?_) (a':=?_) #[true,false,true,false,false,false,false,true,false,true,false,false,false,false,false,false] rfl rfl (any_of HT_.out (by kernel_rfl)) (fun _ _ _ h=>h) (Or.inl ⟨by rfl,?_⟩) ?_ ?_
    rotate_left
    ·intro w'
     go_simp
     with_reducible rfl
    rotate_left
    ·simp only [Act.put,List.setIfInBounds_toArray,List.set_cons_zero,List.set_cons_succ,i64_w,i32_w]
     rfl
    refine take_ (i:=1) (N:=some 18) (v:=?_) (a':=?_) #[true,true,true,false,false,false,false,true,false,true,false,false,false,false,false,false] rfl rfl (take_ofW HT_.out HW_.out (by kernel_rfl)) (fun _ _ _ h=>h) (Or.inl ⟨by rfl,?_⟩) hHeld ?_ ?_
    rotate_left
    ·rintro w' ⟨s0,s1,s2,s3⟩
     go_simp
     with_reducible rfl
    rotate_left
    ·simp only [Act.put,List.setIfInBounds_toArray,List.set_cons_zero,List.set_cons_succ,i64_w,i32_w]
     rfl
    refine take_ (i:=3) (N:=some 20) (v:=?_) (a':=?_) #[true,true,true,true,false,false,false,true,false,true,false,false,false,false,false,false] rfl rfl (take_ofW HT_.out HW_.out (by kernel_rfl)) (fun _ _ _ h=>h) (Or.inl ⟨by rfl,?_⟩) hHeld ?_ ?_
    rotate_left
    ·rintro w' ⟨s0,s1,s2,s3⟩
     go_simp
     with_reducible rfl
    rotate_left
    ·simp only [Act.put,List.setIfInBounds_toArray,List.set_cons_zero,List.set_cons_succ,i64_w,i32_w]
     rfl
    refine take_ (i:=8) (N:=some 25) (v:=?_) (a':=?_) #[true,true,true,true,false,false,false,true,true,true,false,false,false,false,false,false] rfl rfl (take_ofW HT_.out HW_.out (by kernel_rfl)) (fun _ _ _ h=>h) (Or.inl ⟨by rfl,?_⟩) hHeld ?_ ?_
    rotate_left
    ·rintro w' ⟨s0,s1,s2,s3⟩
     go_simp
     with_reducible rfl
    rotate_left
    ·simp only [Act.put,List.setIfInBounds_toArray,List.set_cons_zero,List.set_cons_succ,i64_w,i32_w]
     rfl
    refine take_ (i:=10) (N:=some 27) (v:=?_) (a':=?_) #[true,true,true,true,false,false,false,true,true,true,true,false,false,false,false,false] rfl rfl (take_ofW HT_.out HW_.out (by kernel_rfl)) (fun _ _ _ h=>h) (Or.inl ⟨by rfl,?_⟩) hHeld ?_ ?_
    rotate_left
    ·rintro w' ⟨s0,s1,s2,s3⟩
     go_simp
     with_reducible rfl
    rotate_left
    ·simp only [Act.put,List.setIfInBounds_toArray,List.set_cons_zero,List.set_cons_succ,i64_w,i32_w]
     rfl
    refine one_ (i:=4) (N:=some 21) #[true,true,true,true,true,false,false,true,true,true,true,false,false,false,false,false] rfl rfl (one_of HT_.out (by kernel_rfl)) (by decide) (fun K hK=>?_)
    refine goes_ Tryd.func24 (by kernel_rfl) rfl #[.int .i64 x.f0,.int .i64 x.f1] (by rfl) rfl rfl (by simp only [List.map_toArray,List.map_cons,List.map_nil];rfl) ?_
    with_reducible refine (F1.out _ HL3.out).mono ?_
    rintro e w5 ⟨rfl,hb⟩
    refine ⟨_,rfl,?_⟩
    have y50:=pw_cell_below hb z0
    have y51:=pw_cell_below hb z1
    have y52:=pw_cell_below hb z2
    have y53:=pw_cell_below hb z3
    have HP5:=Aside0.mk (HP3.out.below hb)
    have HB5X:=Aside0.mk (blk_below HB3X.out hb)
    have HL5:=Aside0.mk (HL3.out.below hb)
    clear hb
    refine hK.out _ _ ⟨y50,y51,y52,y53⟩ (fun hHeld=>?_)
    clear hK K
    refine norm_ (a':=?_) ?_ ?_
    rotate_left
    ·show Act.put _ (some 21) _=_
     simp only [Act.put,List.setIfInBounds_toArray,List.set_cons_zero,List.set_cons_succ,i64_w,i32_w]
     rfl
    refine pure_ (i:=5) (N:=some 22) (v:=?_) (a':=?_) #[true,true,true,true,true,true,false,true,true,true,true,false,false,false,false,false] rfl rfl (any_of HT_.out (by kernel_rfl)) (fun _ _ _ h=>h) (Or.inl ⟨by rfl,?_⟩) ?_ ?_
    rotate_left
    ·intro w'
     go_simp
     with_reducible rfl
    rotate_left
    ·simp only [Act.put,List.setIfInBounds_toArray,List.set_cons_zero,List.set_cons_succ,i64_w,i32_w]
     rfl
    refine pure_ (i:=6) (N:=some 23) (v:=?_) (a':=?_) #[true,true,true,true,true,true,true,true,true,true,true,false,false,false,false,false] rfl rfl (any_of HT_.out (by kernel_rfl)) (fun _ _ _ h=>h) (Or.inl ⟨by rfl,?_⟩) ?_ ?_
    rotate_left
    ·intro w'
     go_simp
     with_reducible rfl
    rotate_left
    ·simp only [Act.put,List.setIfInBounds_toArray,List.set_cons_zero,List.set_cons_succ,i64_w,i32_w]
     rfl
    refine one_ (i:=11) (N:=some 28) #[true,true,true,true,true,true,true,true,true,true,true,true,false,false,false,false] rfl rfl (one_of HT_.out (by kernel_rfl)) (by decide) (fun K hK=>?_)
    refine goes_ Tryd.func24 (by kernel_rfl) rfl #[.int .i64 x.f2,.int .i64 x.f3] (by rfl) rfl rfl (by simp only [List.map_toArray,List.map_cons,List.map_nil];rfl) ?_
    with_reducible refine (F2.out _ HL5.out).mono ?_
    rintro e w6 ⟨rfl,hb⟩
    refine ⟨_,rfl,?_⟩
    have y60:=pw_cell_below hb y50
    have y61:=pw_cell_below hb y51
    have y62:=pw_cell_below hb y52
    have y63:=pw_cell_below hb y53
    have HP6:=Aside0.mk (HP5.out.below hb)
    have HB6X:=Aside0.mk (blk_below HB5X.out hb)
    have HL6:=Aside0.mk (HL5.out.below hb)
    clear hb
    refine hK.out _ _ ⟨y60,y61,y62,y63⟩ (fun hHeld=>?_)
    clear hK K
    refine norm_ (a':=?_) ?_ ?_
    rotate_left
    ·show Act.put _ (some 28) _=_
     simp only [Act.put,List.setIfInBounds_toArray,List.set_cons_zero,List.set_cons_succ,i64_w,i32_w]
     rfl
    refine pure_ (i:=12) (N:=some 29) (v:=?_) (a':=?_) #[true,true,true,true,true,true,true,true,true,true,true,true,true,false,false,false] rfl rfl (any_of HT_.out (by kernel_rfl)) (fun _ _ _ h=>h) (Or.inl ⟨by rfl,?_⟩) ?_ ?_
    rotate_left
    ·intro w'
     go_simp
     with_reducible rfl
    rotate_left
    ·simp only [Act.put,List.setIfInBounds_toArray,List.set_cons_zero,List.set_cons_succ,i64_w,i32_w]
     rfl
    refine pure_ (i:=13) (N:=some 30) (v:=?_) (a':=?_) #[true,true,true,true,true,true,true,true,true,true,true,true,true,true,false,false] rfl rfl (any_of HT_.out (by kernel_rfl)) (fun _ _ _ h=>h) (Or.inl ⟨by rfl,?_⟩) ?_ ?_
    rotate_left
    ·intro w'
     go_simp
     with_reducible rfl
    rotate_left
    ·simp only [Act.put,List.setIfInBounds_toArray,List.set_cons_zero,List.set_cons_succ,i64_w,i32_w]
     rfl
    refine pure_ (i:=14) (N:=some 31) (v:=?_) (a':=?_) #[true,true,true,true,true,true,true,true,true,true,true,true,true,true,true,false] rfl rfl (any_of HT_.out (by kernel_rfl)) (fun _ _ _ h=>h) (Or.inl ⟨by rfl,?_⟩) ?_ ?_
    rotate_left
    ·intro w'
     go_simp
     with_reducible rfl
    rotate_left
    ·simp only [Act.put,List.setIfInBounds_toArray,List.set_cons_zero,List.set_cons_succ,i64_w,i32_w]
     rfl
    refine last_ (i:=15) (N:=some 32) #[true,true,true,true,true,true,true,true,true,true,true,true,true,true,true,true] rfl rfl (one_of HT_.out (by kernel_rfl)) (by decide) (fun K hK=>?_)
    refine goes_ Tryd.func23 (by kernel_rfl) rfl #[.pointer (some ⟨b,0,none⟩),.string ((⟨#[64,64,32,45]⟩:ByteArray)++f1++(⟨#[32,43]⟩:ByteArray)++f2++(⟨#[32,64,64]⟩:ByteArray)++(⟨#[10]⟩:ByteArray))] (by rfl) rfl rfl (by simp only [List.map_toArray,List.map_cons,List.map_nil];rfl) ?_
    with_reducible refine (PW7.out _ HP6.out).mono ?_
    rintro e w7 ⟨rfl,h7,hk7⟩
    refine ⟨_,rfl,?_⟩
    have HP7:=Aside0.mk h7
    have HB7X:=Aside0.mk (hk7 _ _ HB6X.out (by intro e;injection e with e;exact HNG.out e) (fun c fz e=>by cases e))
    clear h7 hk7
    refine hK.out _ _ ?_
    clear hK K
    refine norm_ (a':=?_) ?_ ?_
    rotate_left
    ·show Act.put _ (some 32) _=_
     simp only [Act.put,List.setIfInBounds_toArray,List.set_cons_zero,List.set_cons_succ,i64_w,i32_w]
     rfl
    refine done_ (done_of HT_.out (by kernel_rfl)) ?_

    clear z0 z1 z2 z3 n1 n2 n3 n4 n5 hHeld
    have z4:w7.cell? ⟨g,4,none⟩=some (.slice A4 x.f4.length c4):=(blk_cell HB7X.out 4).trans rfl
    have HP8:=HP7
    go_upto_block 2 with (fail)
    clear z4
    go_wp2_with (fail)
    go_loopg [36] x.f4.length (fun kr v36 wi=>∃ (j:Nat) (o:ByteArray),v36=.int .i64 (j:Int)∧Aside0 (j≤x.f4.length∧x.f4.length≤kr+j∧o.size≤i * 1100000000+200+j * 1048700)∧Aside0 (bodyOf (x.f4.drop j) o=bodyOf x.f4 (out++headOf x))∧Aside0 (PBox w b o wi))
    case atStart=>exact ⟨0,out++headOf x,rfl,⟨by have:=HB.out;have:=HHO.out;rw [ByteArray.size_append];omega⟩,⟨rfl⟩,HP8⟩
    case round =>
     obtain ⟨j,o,rfl,HBJ,HQJ,HPJ⟩:=hrel
     by_cases hej:j=x.f4.length
     ·as_aux_lemma =>
      have f3:decide (j<x.f4.length)=false:=decide_eq_false (by omega)
      have HQ4:=Aside0.mk (show printL can (l.drop (i+1)) o=R by rw [← HQ2.out,← HQJ.out,show x.f4.drop j=[] from List.drop_of_length_le (by omega)];rfl)
      have HOB:=Aside0.mk (show o.size≤(i+1) * 1100000000 by have:=HBJ.out;have:=HXX.out.1;omega)
      clear hej
      go_wp2
      go_roundg gk'
      case measure=>have:=HGk.out;omega
      case rel=>exact ⟨i+1,o,by go_num,⟨by have:=HB.out;have:=HGk.out;have:=HOB.out;omega⟩,HQ4,HPJ⟩
     ·have hjl:j<x.f4.length:=by have:=HBJ.out;omega
      obtain ⟨gr',HGr⟩:∃ m,Aside0 (gk=m+1):=⟨gk - 1,⟨by have:=HBJ.out;omega⟩⟩
      have f3:decide (j<x.f4.length)=true:=decide_eq_true hjl
      obtain ⟨ae,ee,hs1⟩:=at_textA (Kd.C_below HR4.out HPJ.out.bel) j hjl
      cases ee
      obtain ⟨s,hs⟩:∃ s,s=x.f4[j]:=⟨_,rfl⟩
      rw [← hs] at hs1
      have HSZ:=Aside0.mk (show s.size≤1048576 by rw [hs];exact HXX.out.2 _ (List.getElem_mem hjl))
      have HDJ:=Aside0.mk (show x.f4.drop j=s :: x.f4.drop (j+1) by rw [hs];exact List.drop_eq_getElem_cons hjl)
      have ky:IntKind.i64.wrap ((j:Int)+1)=(j:Int)+1:=IntWalk.i64_in _ (by have:=HXX.out.1;omega)
      have PW:=Aside0.mk (pwrite w b o s wr HPJ.out (by have:=HBJ.out;have:=HSZ.out;have:=HB.out;have:=HXX.out.1;omega))
      have PW2:=Aside0.mk (show ∀ W,PBox w b (o++s) W→Calls Tryd.prog 23 #[.pointer (some ⟨b,0,none⟩),.string ⟨#[10,92,32,78,111,32,110,101,119,108,105,110,101,32,97,116,32,101,110,100,32,111,102,32,102,105,108,101,10]⟩] W fun e w'=>e=.returned (.tuple #[.int .i64 29,.nilIface])∧PBox w b (o++s++tailB) w' from fun W h=>(pwrite w b (o++s) tailB W h (by rw [ByteArray.size_append];show o.size+s.size+29≤_;have:=HBJ.out;have:=HSZ.out;have:=HB.out;have:=HXX.out.1;omega)).mono fun e w' hh=>⟨hh.1,hh.2.1⟩)
      have HXL:=Aside0.mk hjl
      clear hs hej
      by_cases hcl:closedL s.data.toList=true
      ·as_aux_lemma =>
       have CL:=Aside0.mk (show lines_Closed.f s=some true by rw [← hcl];exact Closed_some s (by have:=HSZ.out;omega))
       have HLO:=Aside0.mk (show bodyOf (x.f4.drop (j+1)) (o++s)=bodyOf x.f4 (out++headOf x) by rw [← HQJ.out,HDJ.out,bodyOf,lineOf,if_pos hcl])
       clear hcl
       go_wp2_with (first
        | (go_at_call 23;(with_reducible refine PW.out.mono ?_);rintro e w8 ⟨rfl,h8,_⟩;have HP9:=Aside0.mk h8;clear h8)
        | (go_at_call 25;(with_reducible refine (lines_Closed.calls s true _ CL.out).mono ?_);rintro e w9 ⟨rfl,⟨nd,rfl⟩⟩))
       go_roundg gr'
       case measure=>have:=HGr.out;omega
       case rel=>exact ⟨j+1,o++s,by go_num,⟨by have:=HBJ.out;have:=HGr.out;have:=HXL.out;have:=HSZ.out;rw [ByteArray.size_append];omega⟩,HLO,⟨HP9.out.below (pw_below_drewN (Below.refl _ _) _)⟩⟩
      ·as_aux_lemma =>
       have CL:=Aside0.mk (show lines_Closed.f s=some false by rw [← Bool.eq_false_iff.2 hcl];exact Closed_some s (by have:=HSZ.out;omega))
       have HLO:=Aside0.mk (show bodyOf (x.f4.drop (j+1)) (o++s++tailB)=bodyOf x.f4 (out++headOf x) by rw [← HQJ.out,HDJ.out,bodyOf,lineOf,if_neg hcl,ByteArray.append_assoc])
       clear hcl
       go_wp2_with (first
        | (go_at_call 23;(with_reducible refine PW.out.mono ?_);rintro e w8 ⟨rfl,h8,_⟩;have HP9:=Aside0.mk h8;clear h8)
        | (go_at_call 23;(with_reducible refine (PW2.out _ (HP9.out.below (pw_below_drewN (Below.refl _ _) _))).mono ?_);rintro e wa ⟨rfl,ha⟩;have HPA:=Aside0.mk ha;clear ha)
        | (go_at_call 25;(with_reducible refine (lines_Closed.calls s false _ CL.out).mono ?_);rintro e w9 ⟨rfl,⟨nd,rfl⟩⟩))
       go_roundg gr'
       case measure=>have:=HGr.out;omega
       case rel=>exact ⟨j+1,o++s++tailB,by go_num,⟨by have:=HBJ.out;have:=HGr.out;have:=HXL.out;have:=HSZ.out;rw [ByteArray.size_append,ByteArray.size_append];show _∧_∧o.size+s.size+29≤_;omega⟩,HLO,HPA⟩
   ·have CC:=Aside0.mk (unified_can.calls kc x.f0 x.f1 x.f2 x.f3 A4 c4 x.f4 false W1 HR5.out HC4.out (by rw [← Bool.eq_false_iff.2 hcx];exact hkc))
    have HR2:=Aside0.mk (show (⟨#[]⟩:ByteArray)=R by rw [← HQ.out,HD.out,printL,if_neg hcx])
    clear hcx hkc hmem
    go_wp2_with (go_at_call 22;(with_reducible refine CC.out.mono ?_);rintro e w2 ⟨rfl,hb⟩;have HP2:=Aside0.mk (HP1.out.below hb);clear hb)
    go_ret
    exact HE.out _ _ (by rw [← HR2.out];first|done|rfl) (by have h_:=HP2.out.bel;rw [HGG.out] at h_;exact h_)
end Go.Proofs.YtamojbfmphainaaDoor.Pr
-- shrunk
-- written by a program of this session's (a turned copy of the kit's printer); Lean checks it
namespace Go.Proofs.YtamojbfmphainaaDoor.Pr
open Go.RowKit Go.Proofs.YtamojbfmphainaaDoorW.PrintWords Go.Proofs.YtamojbfmphainaaDoorW.PrintLast Go.Proofs.YtamojbfmphainaaDoorW.PrintMore
attribute [local go_sem] max2_int min2_int max_two min_two max_three min_three max_four min_four   -- for this text's walks alone

mutual
def r06_can.l0:Nat→Bool→Int→Int→Int→Int→Int→List ByteArray→Option (Bool)
 | 0,_,_,_,_,_,_,_=>none
 | k+1,x3,x4,x171000,x171001,x171002,x171003,x171004=>if x4<(x171004.length:Int) then (r06_can.l1 k x3 x4 0 x171000 x171001 x171002 x171003 x171004) else (if x171000 > 2147483646 then (if x171001 > 0 then (some false) else (if x171002 > 2147483646 then (if x171003 > 0 then (some false) else (if x3=true then (if x171000<2147483648 then (if x171001<2147483648 then (if x171002<2147483648 then (some (decide (x171003<2147483648))) else (some false)) else (some false)) else (some false)) else (some false))) else (if x3=true then (if x171000<2147483648 then (if x171001<2147483648 then (if x171002<2147483648 then (some (decide (x171003<2147483648))) else (some false)) else (some false)) else (some false)) else (some false)))) else (if x171002 > 2147483646 then (if x171003 > 0 then (some false) else (if x3=true then (if x171000<2147483648 then (if x171001<2147483648 then (if x171002<2147483648 then (some (decide (x171003<2147483648))) else (some false)) else (some false)) else (some false)) else (some false))) else (if x3=true then (if x171000<2147483648 then (if x171001<2147483648 then (if x171002<2147483648 then (some (decide (x171003<2147483648))) else (some false)) else (some false)) else (some false)) else (some false))))
def r06_can.l1:Nat→Bool→Int→Int→Int→Int→Int→Int→List ByteArray→Option (Bool)
 | 0,_,_,_,_,_,_,_,_=>none
 | k+1,x3,x4,x5,x171000,x171001,x171002,x171003,x171004=>if 0≤x4 then (if x4<(x171004.length:Int) then (if x5<(wrap64 (((rdOf ByteArray.empty x171004 x4).size:Int) - 1)) then (if 0≤x5 then (if x5<((rdOf ByteArray.empty x171004 x4).size:Int) then (if (bt (rdOf ByteArray.empty x171004 x4) x5)=10 then (some false) else (r06_can.l1 k x3 x4 (wrap64 (x5+1)) x171000 x171001 x171002 x171003 x171004)) else (none)) else (none)) else (r06_can.l0 k x3 (wrap64 (x4+1)) x171000 x171001 x171002 x171003 x171004)) else (none)) else (none)
end
end Go.Proofs.YtamojbfmphainaaDoor.Pr
-- shrunk
-- written by a program of this session's (a turned copy of the kit's printer); Lean checks it
namespace Go.Proofs.YtamojbfmphainaaDoor.Pr
open Go.RowKit Go.Proofs.YtamojbfmphainaaDoorW.PrintWords Go.Proofs.YtamojbfmphainaaDoorW.PrintLast Go.Proofs.YtamojbfmphainaaDoorW.PrintMore
attribute [local go_sem] max2_int min2_int max_two min_two max_three min_three max_four min_four   -- for this text's walks alone

end Go.Proofs.YtamojbfmphainaaDoor.Pr
-- shrunk
-- written by a program of this session's (a turned copy of the kit's printer); Lean checks it
namespace Go.Proofs.YtamojbfmphainaaDoor.Pr
open Go.RowKit Go.Proofs.YtamojbfmphainaaDoorW.PrintWords Go.Proofs.YtamojbfmphainaaDoorW.PrintLast Go.Proofs.YtamojbfmphainaaDoorW.PrintMore
attribute [local go_sem] max2_int min2_int max_two min_two max_three min_three max_four min_four   -- for this text's walks alone

end Go.Proofs.YtamojbfmphainaaDoor.Pr
-- shrunk
-- written by a program of this session's (a turned copy of the kit's printer); Lean checks it
namespace Go.Proofs.YtamojbfmphainaaDoor.Pr
open Go.RowKit Go.Proofs.YtamojbfmphainaaDoorW.PrintWords Go.Proofs.YtamojbfmphainaaDoorW.PrintLast Go.Proofs.YtamojbfmphainaaDoorW.PrintMore
attribute [local go_sem] max2_int min2_int max_two min_two max_three min_three max_four min_four   -- for this text's walks alone

end Go.Proofs.YtamojbfmphainaaDoor.Pr
-- shrunk
/-
The document's Print, walked.
-/
namespace Go.Proofs.YtamojbfmphainaaDoor.Pr
open Go.RowKit Go.Proofs.YtamojbfmphainaaDoorW.PrintWords Go.Proofs.YtamojbfmphainaaDoorW.PrintLast Go.Proofs.YtamojbfmphainaaDoorW.PrintMore
theorem below_drawn {w w':World} (h:Drawn0 w w'):Below w.heap.size w w':=by
 obtain ⟨n,rfl⟩:=h.out
 exact pw_below_drewN (Below.refl _ _) n
end Go.Proofs.YtamojbfmphainaaDoor.Pr
-- shrunk
-- written by a program of this session's (a turned copy of the kit's printer); Lean checks it
namespace Go.Proofs.YtamojbfmphainaaDoor.Pr
open Go.RowKit Go.Proofs.YtamojbfmphainaaDoorW.PrintWords Go.Proofs.YtamojbfmphainaaDoorW.PrintLast Go.Proofs.YtamojbfmphainaaDoorW.PrintMore
attribute [local go_sem] max2_int min2_int max_two min_two max_three min_three max_four min_four   -- for this text's walks alone

end Go.Proofs.YtamojbfmphainaaDoor.Pr
-- shrunk
-- written by a program of this session's (a turned copy of the kit's printer); Lean checks it
namespace Go.Proofs.YtamojbfmphainaaDoor.Pr
open Go.RowKit Go.Proofs.YtamojbfmphainaaDoorW.PrintWords Go.Proofs.YtamojbfmphainaaDoorW.PrintLast Go.Proofs.YtamojbfmphainaaDoorW.PrintMore
attribute [local go_sem] max2_int min2_int max_two min_two max_three min_three max_four min_four   -- for this text's walks alone

mutual
def l06_few.l0:Nat→List (S41)→Bool→Int→Int→Option (Bool)
 | 0,_,_,_,_=>none
 | k+1,x0,x3,x4,x5=>if x5<(x0.length:Int) then (l06_few.j1 k x0 x3 x4 x5 x3) else (l06_few.j1 k x0 x3 x4 x5 false)
def l06_few.j1:Nat→List (S41)→Bool→Int→Int→Bool→Option (Bool)
 | 0,_,_,_,_,_=>none
 | k+1,x0,x3,x4,x5,x15=>if x15=true then (l06_few.l1 k x0 x3 x4 x5 0) else (if x3=true then (some (decide (x4≤500))) else (some false))
def l06_few.l1:Nat→List (S41)→Bool→Int→Int→Int→Option (Bool)
 | 0,_,_,_,_,_=>none
 | k+1,x0,x3,x4,x5,x6=>if 0≤x5 then (if x5<(x0.length:Int) then (if x6<(((rd_T41 x0 x5).f4).length:Int) then (if 0≤x6 then (l06_few.l1 k x0 x3 (wrap64 ((wrap64 (x4+(mn ((rdOf ByteArray.empty ((rd_T41 x0 x5).f4) x6).size:Int) 500)))+1)) x5 (wrap64 (x6+1))) else (none)) else (l06_few.l0 k x0 x3 x4 (wrap64 (x5+1)))) else (none)) else (none)
end
end Go.Proofs.YtamojbfmphainaaDoor.Pr
-- shrunk
/-
What Print's parts answer, in plain Lean: which hunks can be told, a side of a head, which lists are looked at.
-/
namespace Go.Proofs.YtamojbfmphainaaDoor.Pr
open Go.RowKit Go.Proofs.YtamojbfmphainaaDoorW.PrintWords Go.Proofs.YtamojbfmphainaaDoorW.PrintLast Go.Proofs.YtamojbfmphainaaDoorW.PrintMore
theorem index_mem (l:List UInt8) (c:UInt8):decide (Lib.indexByte l c ≥ 0)=decide (c ∈ l):=by
 induction l with
 | nil=>simp [Lib.indexByte]
 | cons b l ih =>
  unfold Lib.indexByte
  by_cases h:b=c
  ·subst h;simp
  ·have h1:=indexByte_lt l c
   have hb:(b == c)=false:=by simpa using h
   rw [hb]
   have e:decide (c ∈ b :: l)=decide (c ∈ l):=decide_eq_decide.2 (by simp [Ne.symm h])
   rw [e,← ih]
   by_cases h2:Lib.indexByte l c = -1
   ·simp [h2]
   ·have h4:(Lib.indexByte l c == -1)=false:=by simpa using h2
    rw [h4]
    simp only [Bool.false_eq_true,if_false]
    exact decide_eq_decide.2 (by omega)
def noNl (s:ByteArray):Bool:=decide (¬ (10:UInt8) ∈ s.data.toList.dropLast)
theorem suffix_nl (s:ByteArray) (h:s.size≤4611686018427387904) (h0:s.size≠0):stringslite_HasSuffix.f s (⟨#[10]⟩:ByteArray)=some (closedL s.data.toList):=by
 have h1:=Closed_some s h
 unfold lines_Closed.f at h1
 rw [if_neg (str_ne s h0)] at h1
 unfold strings_HasSuffix.f at h1
 rcases h2:stringslite_HasSuffix.f s (⟨#[10]⟩:ByteArray) with _|b
 ·rw [h2] at h1;cases h1
 ·rw [h2] at h1;exact h1
theorem plain_some (s:ByteArray) (h:s.size≤4611686018427387904):unified_plain.f s=some (noNl s):=by
 have hlen:s.data.toList.length=s.size:=rfl
 have con:∀ t:ByteArray,strings_Contains.f t (⟨#[10]⟩:ByteArray)=some (decide ((10:UInt8) ∈ t.data.toList)):=by
  intro t
  unfold strings_Contains.f strings_Index.f
  rw [if_pos (show (⟨#[10]⟩:ByteArray).size=1 from rfl)]
  exact congrArg some (index_mem t.data.toList 10)
 unfold unified_plain.f strings_TrimSuffix.f stringslite_TrimSuffix.f
 by_cases h0:s.size=0
 ·have e:stringslite_HasSuffix.f s (⟨#[10]⟩:ByteArray)=some false:=by
   unfold stringslite_HasSuffix.f
   rw [if_neg (by show ¬ ((s.size:Int) ≥ ((1:Nat):Int));omega)]
  have hnil:s.data.toList=[]:=List.eq_nil_of_length_eq_zero (by omega)
  rw [e]
  simp only [Option.bind_some,Bool.false_eq_true,if_false,con,noNl,hnil,List.dropLast_nil,List.not_mem_nil,decide_false,Bool.not_false,not_false_eq_true,decide_true]
 ·have hw:wrap64 ((s.size:Int) - ((⟨#[10]⟩:ByteArray).size:Int))=((s.size - 1:Nat):Int):=by
   show wrap64 ((s.size:Int) - ((1:Nat):Int))=_
   unfold wrap64;omega
  rw [suffix_nl s h h0]
  simp only [Option.bind_some,hw]
  by_cases hc:closedL s.data.toList=true
  ·simp only [hc,if_true,if_pos (show (0:Int)≤((s.size - 1:Nat):Int) by omega),if_pos (show ((s.size - 1:Nat):Int)≤(s.size:Int) by omega),Option.bind_some,con,Int.toNat_natCast]
   have e:(s.extract 0 (s.size - 1)).data.toList=s.data.toList.dropLast:=by
    simp only [ByteArray.data_extract,Array.toList_extract,List.extract_eq_take_drop,List.drop_zero]
    rw [List.dropLast_eq_take,hlen,Nat.sub_zero]
   rw [e,noNl,decide_not]
  ·simp only [Bool.eq_false_iff.2 hc,Bool.false_eq_true,if_false,Option.bind_some,con]
   have hl:=last_get s (by omega)
   have e:s.data.toList=s.data.toList.dropLast++[s.data.toList[s.size - 1]'(by show s.size - 1<s.size;omega)]:=by
    have h5:=List.dropLast_concat_getLast (l:=s.data.toList) (by intro e;rw [e] at hlen;simp at hlen;omega)
    rw [List.getLast?_eq_some_getLast (by intro e;rw [e] at hlen;simp at hlen;omega)] at hl
    rw [Option.some.inj hl] at h5
    exact h5.symm
   have hne:s.data.toList[s.size - 1]'(by show s.size - 1<s.size;omega)≠10:=by
    intro e2
    apply hc
    unfold closedL
    rw [hl,e2]
    simp
   rw [noNl,← decide_not]
   congr 1
   apply decide_eq_decide.2
   constructor
   ·intro h1 h2;exact h1 (by rw [e];exact List.mem_append_left _ h2)
   ·intro h1 h2
    rw [e] at h2
    rcases List.mem_append.1 h2 with h2|h2
    ·exact h1 h2
    ·exact hne (List.mem_singleton.1 h2).symm
def bndH (x:S41):Bool:=decide (firstI x.f0 x.f1<2147483648∧x.f1<2147483648∧firstI x.f2 x.f3<2147483648∧x.f3<2147483648)
def canH (x:S41):Bool:=x.f4.all noNl && (rightL x.f0 x.f1 x.f2 x.f3 x.f4 && bndH x)
structure NumH (x:S41):Prop where
 a:-1099511627776≤x.f0∧x.f0≤1099511627776
 b:-1099511627776≤x.f1∧x.f1≤1099511627776
 c:-1099511627776≤x.f2∧x.f2≤1099511627776
 d:-1099511627776≤x.f3∧x.f3≤1099511627776
theorem first_some {a b:Int} (h0:-1099511627776≤a) (h1:a≤1099511627776):unified_first.f a b=some (firstI a b):=by
 unfold unified_first.f firstI
 split
 ·rw [w_in (by omega) (by omega)]
 ·rfl
theorem mx_lt (a b c:Int):mx a b<c ↔ a<c∧b<c:=by unfold mx;split<;>omega
theorem ucan_l0 (x:S41) (hx:NumH x) (hn:x.f4.length≤1099511627776) (hs:∀ s ∈ x.f4,s.size≤4611686018427387904):∀ d i,x.f4.length - i=d→i≤x.f4.length →
  Ev (fun k=>unified_can.l0 k x.f4 (x.f4.length:Int) (i:Int) x.f0 x.f1 x.f2 x.f3 x.f4) ((x.f4.drop i).all noNl && (rightL x.f0 x.f1 x.f2 x.f3 x.f4 && bndH x)):=by
 intro d
 induction d with
 | zero =>
  intro i hd hi
  refine Ev.step (fun _=>unified_can.l0.eq_2 ..) ?_
  simp only [if_neg (show ¬ (i:Int)<(x.f4.length:Int) by omega)]
  rw [List.drop_of_length_le (by omega),List.all_nil,Bool.true_and]
  have h:=HRight_ev x.f0 x.f1 x.f2 x.f3 x.f4 hn
  rw [right_same] at h
  refine Ev.bind h ?_
  by_cases hr:rightL x.f0 x.f1 x.f2 x.f3 x.f4=true
  ·simp only [hr,if_true,first_some hx.a.1 hx.a.2,first_some hx.c.1 hx.c.2,Option.bind_some,Bool.true_and]
   have e:decide ((mx (mx (mx (firstI x.f0 x.f1) x.f1) (firstI x.f2 x.f3)) x.f3)<2147483648)=bndH x:=by
    unfold bndH
    apply decide_eq_decide.2
    rw [mx_lt,mx_lt,mx_lt]
    constructor
    ·intro h;exact ⟨h.1.1.1,h.1.1.2,h.1.2,h.2⟩
    ·intro h;exact ⟨⟨⟨h.1,h.2.1⟩,h.2.2.1⟩,h.2.2.2⟩
   rw [e]
   exact Ev.now _
  ·simp only [Bool.eq_false_iff.2 hr,Bool.false_eq_true,if_false,Bool.false_and]
   exact Ev.now _
 | succ d ih =>
  intro i hd hi
  have h0:i<x.f4.length:=by omega
  refine Ev.step (fun _=>unified_can.l0.eq_2 ..) ?_
  simp only [if_pos (show (i:Int)<(x.f4.length:Int) by omega),if_pos (show (0:Int)≤(i:Int) by omega),rdS_at h0,plain_some _ (hs _ (List.getElem_mem h0)),Option.bind_some]
  rw [List.drop_eq_getElem_cons h0,List.all_cons]
  by_cases hp:noNl x.f4[i]=true
  ·simp only [hp,if_true,Bool.true_and,w_succ h0 (by omega)]
   exact ih (i+1) (by omega) (by omega)
  ·simp only [Bool.eq_false_iff.2 hp,Bool.false_eq_true,if_false,Bool.false_and]
   exact Ev.now _
theorem ucan_ev (x:S41) (hx:NumH x) (hn:x.f4.length≤1099511627776) (hs:∀ s ∈ x.f4,s.size≤4611686018427387904):Ev (fun k=>unified_can.f k x.f0 x.f1 x.f2 x.f3 x.f4) (canH x):=by
 have h:=ucan_l0 x hx hn hs _ 0 rfl (Nat.zero_le _)
 rw [List.drop_zero] at h
 exact h
end Go.Proofs.YtamojbfmphainaaDoor.Pr
-- shrunk
/-
What the document's Print's parts answer, in plain Lean; which lists are looked at.
-/
namespace Go.Proofs.YtamojbfmphainaaDoor.Pr
open Go.RowKit Go.Proofs.YtamojbfmphainaaDoorW.PrintWords Go.Proofs.YtamojbfmphainaaDoorW.PrintLast Go.Proofs.YtamojbfmphainaaDoorW.PrintMore
theorem firstI_lt (a b:Int):firstI a b<2147483648 ↔ (b > 0∧a<2147483647)∨(b≤0∧a<2147483648):=by unfold firstI;split<;>omega
end Go.Proofs.YtamojbfmphainaaDoor.Pr
-- shrunk
/-
unified.Parse.
-/
namespace Go.Proofs.YtamojbfmphainaaDoor.Pr
open Go.RowKit Go.Proofs.YtamojbfmphainaaDoorW.PrintWords Go.Proofs.YtamojbfmphainaaDoorW.PrintLast Go.Proofs.YtamojbfmphainaaDoorW.PrintMore
set_option maxRecDepth 100000 in
set_option maxHeartbeats 2000000 in
theorem clip_calls (A:Option Addr) (n c:Nat) (h:n≤c) (hn:n≤4611686018427387904) (w:World) :
  Calls Tryd.prog 33 #[.slice A n c] w fun e w'=>e=.returned (.slice A n n)∧w'=w:=by
 go_enter Tryd.func33,Tryd.ntmps33
 go_wp2
 go_ret
 exact ⟨rfl,rfl⟩
set_option maxRecDepth 100000 in
set_option maxHeartbeats 2000000 in
theorem next_new (w:World) :
  Calls Tryd.prog 31 #[.pointer (some ⟨w.heap.size,0,none⟩)] (w.alloc (.cells #[.slice none 0 0,.int .i64 0,.int .i64 0,.bool true,.nilFunc] 57 (0,0))) fun e w'=>e=.returned (.tuple #[])∧w'.heap[w.heap.size]?=some (.cells #[.slice none 0 0,.int .i64 0,.int .i64 0,.bool true,.func (.func 60) #[.pointer (some ⟨w.heap.size,0,none⟩)] #[]] 57 (0,0))∧Below w.heap.size w w':=by
 have hb:=blk_new w (.cells #[.slice none 0 0,.int .i64 0,.int .i64 0,.bool true,.nilFunc] 57 (0,0))
 have hbel:Below w.heap.size w (w.alloc (.cells #[.slice none 0 0,.int .i64 0,.int .i64 0,.bool true,.nilFunc] 57 (0,0))):=below_alloc (Below.refl _ _) _
 generalize w.alloc (.cells #[.slice none 0 0,.int .i64 0,.int .i64 0,.bool true,.nilFunc] 57 (0,0))=W at hb hbel ⊢
 have HB:=Aside0.mk hb
 have HL:=Aside0.mk hbel
 have hz1:W.cell? ⟨w.heap.size,1,none⟩=some (.int .i64 0):=(blk_cell hb 1).trans rfl
 have hz2:W.cell? ⟨w.heap.size,2,none⟩=some (.int .i64 0):=(blk_cell hb 2).trans rfl
 have hz4:W.cell? ⟨w.heap.size,4,none⟩=some .nilFunc:=(blk_cell hb 4).trans rfl
 have hzf:=blk_frozen hb 4
 clear hb hbel
 generalize hg:w.heap.size=g at *
 have HG:=Aside0.mk hg
 clear hg
 go_enter Tryd.func31,Tryd.ntmps31
 go_wp2
 go_end0
 have h1:=blk_put HB.out 4 (.func (.func 59) #[.pointer (some ⟨g,0,none⟩)] #[]) rfl
 have h2:=blk_put h1 4 (.func (.func 60) #[.pointer (some ⟨g,0,none⟩)] #[]) rfl
 have e:=HG.out
 subst e
 exact ⟨rfl,h2,below_set (below_set HL.out (Nat.le_refl _)) (Nat.le_refl _)⟩
def ParseEnd (s:ByteArray) (w:World) (e:Ending) (w':World):Prop:=∃ A c,e=.returned (.tuple #[.slice A (parseU s).1.length c,.int .i64 (parseU s).2.1,.int .i64 (parseU s).2.2])∧(parseU s).1.length≤c∧Kd.C k41 w' A (parseU s).1.length (parseU s).1∧Below w.heap.size w w'
theorem linesB_mem {s t:ByteArray} (h:t ∈ linesB s):0<t.size∧t.size≤s.size:=by
 rw [linesB_lns] at h
 obtain ⟨u,hu,rfl⟩:=List.mem_map.1 h
 have h1:=lns_ne _ u hu
 have h2:u.length≤s.data.toList.length:=by
  have h3:=(List.sublist_flatten_of_mem hu).length_le
  rwa [lns_flatten] at h3
 refine ⟨?_,?_⟩
 ·show 0<u.toArray.size
  rw [List.size_toArray];exact List.length_pos_iff.2 h1
 ·show u.toArray.size≤s.data.size
  rw [List.size_toArray,← Array.length_toList];exact h2
set_option maxRecDepth 100000 in
set_option maxHeartbeats 16000000 in
theorem parse_calls (s:ByteArray) (hs:s.size≤1073741824) (w:World) (hL:LaidU w):Calls Tryd.prog 12 #[.string s] w (ParseEnd s w):=by
 have HL:=Aside0.mk hL
 obtain ⟨L,hLL⟩:∃ L,L=linesB s:=⟨_,rfl⟩
 have HSP:=Aside0.mk (show lines_Split.f s=some L by rw [hLL];exact Split_some s (by omega))
 have HG:=Aside0.mk (show ∀ t ∈ L,0<t.size∧t.size≤s.size by rw [hLL];exact fun t h=>linesB_mem h)
 have HP:=Aside0.mk (show parseL L 0 ⟨[],0,0,true⟩=parseU s by rw [hLL];rfl)
 have hll:L.length≤1073741824:=by rw [hLL];have:=linesB_len s;omega
 have HS:=Aside0.mk hs
 clear hs hLL hL
 go_enter Tryd.func12,Tryd.ntmps12
 go_upto_region 4 with (first
  | (go_at_call 31;(with_reducible refine (next_new w).mono ?_);rintro e w1 ⟨rfl,h1,hb1⟩;have HX1:=Aside0.mk h1;have HB1:=Aside0.mk hb1;clear h1 hb1)
  | (go_at_call 16;(with_reducible refine (lines_Split.calls s L _ HSP.out).mono ?_);rintro e w2 ⟨v2,rfl,ho,hb⟩;obtain ⟨A2,c2,e2⟩:=Kd.R_slice ho;subst e2;have HX2:=Aside0.mk (show RBox w2 w.heap.size (.slice none 0 0) 0 0 true 60 [] w2 from ⟨blk_below HX1.out hb,Kd.S_nil _ _ _ _ _,Keep1.refl _ _⟩);have HRL:=Aside0.mk (Kd.R_types ho HX2.out.box (by intro q hq;simp [Kd.string,Kd.scalar] at hq;subst hq;decide));have HB2:=Aside0.mk (below_step HB1.out hb);clear ho hb))
 generalize hgg:w.heap.size=g at *
 have HGG:=Aside0.mk hgg
 clear hgg
 have FIN:=Aside0.mk (show ∀ W,Keep1 w2 g W→Below w.heap.size w W from fun W h=>Keep1.below (by have h_:=HB2.out;rw [← HGG.out] at h_;exact h_) h (by rw [HGG.out];exact Nat.le_refl _))
 go_upto_block 0 with (fail)
 have hi0:=Aside0.mk (show PInv s.size 0 ⟨[],0,0,true⟩ from ⟨Int.le_refl _,by decide,Int.le_refl _,by decide,Nat.le_refl _,fun h=>by rcases h with h|h|h<;>exact absurd h (by decide)⟩)
 go_wp2_with (fail)
 go_loopg [17] L.length (fun kq v17 wr=>∃ (k:Nat) (st:PS) (v:Value),v17=.int .i64 (k:Int)∧Aside0 (k≤L.length∧L.length≤kq+k)∧Aside0 (parseL (L.drop k) k st=parseU s)∧Aside0 (PInv s.size k st)∧Aside0 (RBox w2 g v st.an st.bn st.bare (nextF st.an st.bn) st.l wr))
 case atStart=>exact ⟨0,⟨[],0,0,true⟩,_,rfl,⟨by omega⟩,HP,hi0,HX2⟩
 case round =>
  clear HX2 HX1 HP hi0
  obtain ⟨k,st,v,rfl,HB,HQ,HI,HX⟩:=hrel
  by_cases hend:k=L.length
  ·as_aux_lemma =>
   have f2:decide (k<L.length)=false:=decide_eq_false (by omega)
   have HQ2:=Aside0.mk (show parseU s=if st.an > 0∨st.bn > 0 then ([],(k:Int)+1,2) else (st.l,0,0) by rw [← HQ.out,List.drop_of_length_le (by omega)];rfl)
   have z1:wr.cell? ⟨g,1,none⟩=some (.int .i64 st.an):=(blk_cell HX.out.box 1).trans rfl
   have z2:wr.cell? ⟨g,2,none⟩=some (.int .i64 st.bn):=(blk_cell HX.out.box 2).trans rfl
   obtain ⟨A,c,e0⟩:=Kd.S_slice HX.out.row
   subst e0
   have HRD:=Aside0.mk (Kd.S_reads' HX.out.row)
   have z0:wr.cell? ⟨g,0,none⟩=some (.slice A st.l.length c):=(blk_cell HX.out.box 0).trans rfl
   have hln:st.l.length≤1073741824:=by have:=HI.out.len;omega
   have HKL:=Aside0.mk hend
   clear hend
   by_cases c1:st.an > 0
   ·have c1b:decide (0<st.an)=true:=decide_eq_true c1
    have HU:=Aside0.mk (show parseU s=([],(k:Int)+1,2) by rw [HQ2.out,if_pos (.inl c1)])
    have kx:IntKind.i64.wrap ((L.length:Int)+1)=(L.length:Int)+1:=IntWalk.i64_in _ (by omega)
    clear c1 z0
    go_wp2
    go_ret3
    exact ⟨none,0,by rw [HU.out,HKL.out];rfl,by rw [HU.out];exact Nat.le_refl _,by rw [HU.out];exact Kd.C_nil _ _,FIN.out _ HX.out.bel⟩
   ·have c1b:decide (0<st.an)=false:=decide_eq_false c1
    by_cases c2:st.bn > 0
    ·have c2b:decide (0<st.bn)=true:=decide_eq_true c2
     have HU:=Aside0.mk (show parseU s=([],(k:Int)+1,2) by rw [HQ2.out,if_pos (.inr c2)])
     have kx:IntKind.i64.wrap ((L.length:Int)+1)=(L.length:Int)+1:=IntWalk.i64_in _ (by omega)
     clear c1 c2 z0
     go_wp2
     go_ret3
     exact ⟨none,0,by rw [HU.out,HKL.out];rfl,by rw [HU.out];exact Nat.le_refl _,by rw [HU.out];exact Kd.C_nil _ _,FIN.out _ HX.out.bel⟩
    ·have c2b:decide (0<st.bn)=false:=decide_eq_false c2
     have HU:=Aside0.mk (show parseU s=(st.l,0,0) by rw [HQ2.out,if_neg (fun h=>h.elim c1 c2)])
     clear c1 c2
     go_wp2_with (go_at_call 33;(with_reducible refine (clip_calls A st.l.length c HRD.out.2.1 (by omega) _).mono ?_);rintro e w4 ⟨rfl,rfl⟩)
     go_ret3
     exact ⟨A,st.l.length,by rw [HU.out];rfl,by rw [HU.out];exact Nat.le_refl _,by rw [HU.out];exact HRD.out.2.2,FIN.out _ HX.out.bel⟩
  ·have hxl:k<L.length:=by have:=HB.out;omega
   obtain ⟨gk',HGk⟩:∃ m,Aside0 (gk=m+1):=⟨gk - 1,⟨by have:=HB.out;omega⟩⟩
   have f2:decide (k<L.length)=true:=decide_eq_true hxl
   have hC:=(Kd.R_reads' (Kd.R_keep HRL.out HX.out.bel.1 (fun _ h=>h.2))).2.2
   obtain ⟨ad,ea,hw1⟩:=at_textA hC k hxl
   cases ea
   obtain ⟨t,ht⟩:∃ t,t=L[k]:=⟨_,rfl⟩
   rw [← ht] at hw1
   have HT:=Aside0.mk (show L.drop k=t :: L.drop (k+1) by rw [ht];exact List.drop_eq_getElem_cons hxl)
   have HTG:=Aside0.mk (show 0<t.size∧t.size≤s.size by rw [ht];exact HG.out _ (List.getElem_mem hxl))
   have HXL:=Aside0.mk hxl
   have kx:IntKind.i64.wrap ((k:Int)+1)=(k:Int)+1:=IntWalk.i64_in _ (by omega)
   clear hend ht hC
   by_cases c1:t=openB∧st.bare=false
   ·as_aux_lemma =>
    obtain ⟨m,x,hm,hx,hxk,hxg,hxne⟩:=HI.out.last (.inr (.inr c1.2))
    obtain ⟨q,hq⟩:∃ q,x.f4.length=q+1:=⟨x.f4.length - 1,by have:=List.length_pos_iff.2 (hxne c1.2);omega⟩
    have HST:=Aside0.mk (show stepP st t=some ⟨chopL st.l,st.an,st.bn,true⟩ by rw [stepP,if_pos c1])
    have HI2:=Aside0.mk (HI.out.step HTG.out.1 HTG.out.2 HST.out)
    have HQ3:=Aside0.mk (show parseL (L.drop (k+1)) (k+1) ⟨chopL st.l,st.an,st.bn,true⟩=parseU s by rw [← HQ.out,HT.out,parseL,HST.out])
    have HCL:=Aside0.mk (show chopL st.l=st.l.set m { x with f4:=x.f4.set q (chopB (rdOf ByteArray.empty x.f4 q)) } by rw [chopL,hm,Nat.add_sub_cancel,hx];show st.l.set m (chopH x)=_;rw [chopH,hq,Nat.add_sub_cancel])
    have CC:=Aside0.mk (cut_yes w2 g v st.an st.bn (nextF st.an st.bn) st.l m q x wr (c1.2 ▸ HX.out) hm hx hq (by have:=HI.out.len;omega) (by omega) (by
     have hqm:q<x.f4.length:=by omega
     rw [rdS_at hqm];have:=(hxg _ (List.getElem_mem hqm)).2.1;have:=HS.out;omega))
    obtain ⟨rfl,hbr⟩:=c1
    clear hm hx hxk hxg hxne hq hbr
    go_wp2_with (go_at_call 32;(with_reducible refine CC.out.mono ?_);rintro e w3 ⟨rfl,h3⟩;rw [← HCL.out] at h3;have HY:=Aside0.mk h3;clear h3)
    go_roundg gk'
    case measure=>have:=HGk.out;omega
    case rel=>exact ⟨k+1,⟨chopL st.l,st.an,st.bn,true⟩,v,by go_num,⟨by have:=HB.out;have:=HGk.out;have:=HXL.out;omega⟩,HQ3,HI2,HY⟩
   ·have CN:=Aside0.mk (cut_no w2 g v st.an st.bn st.bare (nextF st.an st.bn) st.l t wr HX.out (by
     by_cases e:t=openB
     ·right;cases hbr:st.bare with
      | true=>rfl
      | false=>exact absurd ⟨e,hbr⟩ c1
     ·exact .inl e))
    have HLW:=Aside0.mk (HL.out.below (FIN.out _ HX.out.bel))
    by_cases c2:st.an=0∧st.bn=0
    ·have HXH:=Aside0.mk (show RBox w2 g v st.an st.bn st.bare 60 st.l wr by have h_:=HX.out;rwa [nextF,if_pos c2] at h_)
     have z4:wr.cell? ⟨g,4,none⟩=some (.func (.func 60) #[.pointer (some ⟨g,0,none⟩)] #[]):=(blk_cell HXH.out.box 4).trans rfl
     have CH:=Aside0.mk (head_calls w2 g v st.an st.bn st.bare 60 st.l t wr HXH.out HLW.out (by have:=HTG.out.2;have:=HS.out;omega) (by have:=HI.out.len;omega))
     rcases hhd:headB t with _|hd
     ·as_aux_lemma =>
      have HST:=Aside0.mk (show stepP st t=none by rw [stepP,if_neg c1,if_pos c2,hhd];rfl)
      have HU:=Aside0.mk (show parseU s=([],(k:Int)+1,3) by rw [← HQ.out,HT.out,parseL,HST.out])
      have CH2:=Aside0.mk (show Calls Tryd.prog 60 #[.pointer (some ⟨g,0,none⟩),.string t] wr fun e w'=>e=.returned (.bool false)∧Keep1 w2 g w' from CH.out.mono fun e w' h=>⟨by rw [h.1,hhd];rfl,h.2.1⟩)
      clear c1 c2 hhd CH
      go_wp2_with (first
       | (go_at_call 32;(with_reducible refine CN.out.mono ?_);rintro e w3 ⟨rfl,rfl⟩)
       | (go_at_call 60;(with_reducible refine CH2.out.mono ?_);rintro e w4 ⟨rfl,h4⟩;have HK3:=Aside0.mk h4;clear h4))
      go_ret3
      exact ⟨none,0,by rw [HU.out];rfl,by rw [HU.out];exact Nat.le_refl _,by rw [HU.out];exact Kd.C_nil _ _,FIN.out _ HK3.out⟩
     ·as_aux_lemma =>
      have HST:=Aside0.mk (show stepP st t=some ⟨st.l++[hd],hd.f1,hd.f3,true⟩ by rw [stepP,if_neg c1,if_pos c2,hhd];rfl)
      have HI2:=Aside0.mk (HI.out.step HTG.out.1 HTG.out.2 HST.out)
      have HQ3:=Aside0.mk (show parseL (L.drop (k+1)) (k+1) ⟨st.l++[hd],hd.f1,hd.f3,true⟩=parseU s by rw [← HQ.out,HT.out,parseL,HST.out])
      have CH2:=Aside0.mk (show Calls Tryd.prog 60 #[.pointer (some ⟨g,0,none⟩),.string t] wr fun e w'=>e=.returned (.bool true)∧∃ v,RBox w2 g v hd.f1 hd.f3 true (nextF hd.f1 hd.f3) (st.l++[hd]) w' from CH.out.mono fun e w' h=>⟨by rw [h.1,hhd];rfl,h.2.2 hd hhd⟩)
      clear c1 c2 hhd CH
      go_wp2_with (first
       | (go_at_call 32;(with_reducible refine CN.out.mono ?_);rintro e w3 ⟨rfl,rfl⟩)
       | (go_at_call 60;(with_reducible refine CH2.out.mono ?_);rintro e w4 ⟨rfl,v4,h4⟩;have HY:=Aside0.mk h4;clear h4))
      go_roundg gk'
      case measure=>have:=HGk.out;omega
      case rel=>exact ⟨k+1,⟨st.l++[hd],hd.f1,hd.f3,true⟩,v4,by go_num,⟨by have:=HB.out;have:=HGk.out;have:=HXL.out;omega⟩,HQ3,HI2,HY⟩
    ·have HXH:=Aside0.mk (show RBox w2 g v st.an st.bn st.bare 59 st.l wr by have h_:=HX.out;rwa [nextF,if_neg c2] at h_)
     have z4:wr.cell? ⟨g,4,none⟩=some (.func (.func 59) #[.pointer (some ⟨g,0,none⟩)] #[]):=(blk_cell HXH.out.box 4).trans rfl
     obtain ⟨m,x,hm,hx,hxk,hxg,hxne⟩:=HI.out.last (by
      by_cases h0:st.an=0
      ·exact .inr (.inl fun hb0=>c2 ⟨h0,hb0⟩)
      ·exact .inl h0)
     have CH:=Aside0.mk (line_calls w2 g v st.an st.bn st.bare 59 st.l m x t (closedL t.data.toList) wr HXH.out hm hx (by have:=HI.out.len;omega) (by omega) (fun u hu=>(hxg u hu).1) HTG.out.1 HI.out.a0 (by have:=HI.out.a1;omega) HI.out.b0 (by have:=HI.out.b1;omega) (Closed_some t (by have:=HTG.out.2;have:=HS.out;omega)))
     have hsx:st.l[st.l.length - 1]?=some x:=by rw [hm,Nat.add_sub_cancel];exact hx
     by_cases c3:lineR (wentB x.f4) (closedL t.data.toList) (bt t 0) st.an st.bn=true
     ·as_aux_lemma =>
      obtain ⟨a,b,hst,_,_,_⟩:=lineR_some c3
      have HST:=Aside0.mk (show stepP st t=some ⟨addL st.l m t,a,b,false⟩ by rw [stepP,if_neg c1,if_neg c2,hsx];show (if lineR _ _ _ _ _=true then _ else _)=_;rw [if_pos c3,hst,hm,Nat.add_sub_cancel];rfl)
      have HI2:=Aside0.mk (HI.out.step HTG.out.1 HTG.out.2 HST.out)
      have HQ3:=Aside0.mk (show parseL (L.drop (k+1)) (k+1) ⟨addL st.l m t,a,b,false⟩=parseU s by rw [← HQ.out,HT.out,parseL,HST.out])
      have CH2:=Aside0.mk (show Calls Tryd.prog 59 #[.pointer (some ⟨g,0,none⟩),.string t] wr fun e w'=>e=.returned (.bool true)∧∃ v,RBox w2 g v a b false (nextF a b) (addL st.l m t) w' from CH.out.mono fun e w' h=>⟨by rw [h.1,c3],h.2.2 a b hst⟩)
      clear c1 c2 c3 hst CH hm hx hxk hxg hxne hsx
      go_wp2_with (first
       | (go_at_call 32;(with_reducible refine CN.out.mono ?_);rintro e w3 ⟨rfl,rfl⟩)
       | (go_at_call 59;(with_reducible refine CH2.out.mono ?_);rintro e w4 ⟨rfl,v4,h4⟩;have HY:=Aside0.mk h4;clear h4))
      go_roundg gk'
      case measure=>have:=HGk.out;omega
      case rel=>exact ⟨k+1,⟨addL st.l m t,a,b,false⟩,v4,by go_num,⟨by have:=HB.out;have:=HGk.out;have:=HXL.out;omega⟩,HQ3,HI2,HY⟩
     ·as_aux_lemma =>
      have HST:=Aside0.mk (show stepP st t=none by rw [stepP,if_neg c1,if_neg c2,hsx];show (if lineR _ _ _ _ _=true then _ else _)=_;rw [if_neg c3])
      have HU:=Aside0.mk (show parseU s=([],(k:Int)+1,3) by rw [← HQ.out,HT.out,parseL,HST.out])
      have CH2:=Aside0.mk (show Calls Tryd.prog 59 #[.pointer (some ⟨g,0,none⟩),.string t] wr fun e w'=>e=.returned (.bool false)∧Keep1 w2 g w' from CH.out.mono fun e w' h=>⟨by rw [h.1,Bool.eq_false_iff.2 c3],h.2.1⟩)
      clear c1 c2 c3 CH hm hx hxk hxg hxne hsx
      go_wp2_with (first
       | (go_at_call 32;(with_reducible refine CN.out.mono ?_);rintro e w3 ⟨rfl,rfl⟩)
       | (go_at_call 59;(with_reducible refine CH2.out.mono ?_);rintro e w4 ⟨rfl,h4⟩;have HK3:=Aside0.mk h4;clear h4))
      go_ret3
      exact ⟨none,0,by rw [HU.out];rfl,by rw [HU.out];exact Nat.le_refl _,by rw [HU.out];exact Kd.C_nil _ _,FIN.out _ HK3.out⟩
end Go.Proofs.YtamojbfmphainaaDoor.Pr
-- shrunk
/-
Hunks as lines, in plain Lean: what is printed is made of lines; a head that is printed is read again.
-/
namespace Go.Proofs.YtamojbfmphainaaDoor.Pr
open Go.RowKit Go.Proofs.YtamojbfmphainaaDoorW.PrintWords Go.Proofs.YtamojbfmphainaaDoorW.PrintLast Go.Proofs.YtamojbfmphainaaDoorW.PrintMore
theorem lns_one {x:List UInt8} (h:¬ (10:UInt8) ∈ x):lns (x++[10])=[x++[10]]:=by
 induction x with
 | nil=>simp [lns]
 | cons b x ih =>
  have hb:b≠10:=fun e=>h (e ▸ List.mem_cons_self)
  rw [List.cons_append,lns_no hb,ih (fun m=>h (List.mem_cons_of_mem _ m))]
  rfl
def IsLn (t:ByteArray):Prop:=∃ x,t.data.toList=x++[10]∧¬ (10:UInt8) ∈ x
theorem IsLn.closed {t:ByteArray} (h:IsLn t):closedL t.data.toList=true:=by
 obtain ⟨x,e,_⟩:=h
 rw [e,closedL];simp
def bytesL (L:List ByteArray):List UInt8:=L.flatMap (·.data.toList)
theorem bytesL_append (a b:List ByteArray):bytesL (a++b)=bytesL a++bytesL b:=by unfold bytesL;rw [List.flatMap_append]
theorem bytesL_cons (t:ByteArray) (b:List ByteArray):bytesL (t :: b)=t.data.toList++bytesL b:=rfl
theorem lns_lines (r:List UInt8):∀ (L:List ByteArray),(∀ t ∈ L,IsLn t)→lns (bytesL L++r)=L.map (·.data.toList)++lns r
 | [],_=>rfl
 | t :: L,h=>by
  have ht:=h t List.mem_cons_self
  rw [bytesL_cons,List.append_assoc,lns_append _ _ ht.closed,lns_lines r L (fun u hu=>h u (List.mem_cons_of_mem _ hu))]
  obtain ⟨x,e,hx⟩:=ht
  show lns t.data.toList++_=[t.data.toList]++_++_
  rw [e,lns_one hx]
  rfl
theorem bs_of (t:ByteArray):bs t.data.toList=t:=rfl
theorem linesB_told (L:List ByteArray) (h:∀ t ∈ L,IsLn t) (s:ByteArray) (hs:s.data.toList=bytesL L):linesB s=L:=by
 rw [linesB_lns,hs,← List.append_nil (bytesL L),lns_lines [] L h,List.map_append,List.map_map]
 have e:(bs ∘ fun t:ByteArray=>t.data.toList)=id:=funext bs_of
 rw [e,List.map_id]
 exact List.append_nil _
def bodyT:List ByteArray→List ByteArray
 | []=>[]
 | s :: r=>(if closedL s.data.toList=true then [s] else [s++(⟨#[10]⟩:ByteArray),openB])++bodyT r
def toldH (x:Hk):List ByteArray:=headOf x :: bodyT x.f4
def toldL (l:List Hk):List ByteArray:=l.flatMap toldH
theorem lineOf_bytes (s:ByteArray):(lineOf s).data.toList=bytesL (if closedL s.data.toList=true then [s] else [s++(⟨#[10]⟩:ByteArray),openB]):=by
 unfold lineOf
 split
 ·simp [bytesL]
 ·simp only [bytesL,List.flatMap_cons,List.flatMap_nil,List.append_nil,ByteArray.data_append,Array.toList_append,List.append_assoc]
  rfl
theorem body_bytes:∀ (r:List ByteArray) (out:ByteArray),(bodyOf r out).data.toList=out.data.toList++bytesL (bodyT r)
 | [],out=>by simp [bodyOf,bodyT,bytesL]
 | s :: r,out=>by
  rw [bodyOf,body_bytes r,bodyT,bytesL_append,ByteArray.data_append,Array.toList_append,lineOf_bytes,List.append_assoc]
theorem print_bytes (can:Hk→Bool):∀ (l:List Hk) (out:ByteArray),(∀ x ∈ l,can x=true)→(printL can l out).data.toList=out.data.toList++bytesL (toldL l)
 | [],out,_=>by simp [printL,toldL,bytesL]
 | x :: r,out,h=>by
  have e:toldL (x :: r)=headOf x :: (bodyT x.f4++toldL r):=rfl
  rw [printL,if_pos (h x List.mem_cons_self),print_bytes can r _ (fun y hy=>h y (List.mem_cons_of_mem _ hy)),body_bytes,e,bytesL_cons,bytesL_append,ByteArray.data_append,Array.toList_append]
  simp only [List.append_assoc]
theorem dec_range:∀ (u:Nat),∀ c ∈ Lib.decDigits u,48≤c.toNat∧c.toNat≤57:=by
 intro u
 induction u using Nat.strongRecOn with
 | ind u ih =>
  intro c hc
  rw [Lib.decDigits] at hc
  split at hc
  ·obtain rfl:=List.mem_singleton.1 hc
   rw [UInt8.toNat_ofNat'];omega
  ·rcases List.mem_append.1 hc with hc|hc
   ·exact ih (u / 10) (by omega) c hc
   ·obtain rfl:=List.mem_singleton.1 hc
    rw [UInt8.toNat_ofNat'];omega
theorem parse_append:∀ (l:List UInt8) (acc v:Nat) (c:UInt8),Lib.parseUint10 acc l=.ok v→v<1844674407370955161→48≤c.toNat∧c.toNat≤57→Lib.parseUint10 acc (l++[c])=.ok (v * 10+(c.toNat - 48))
 | [],acc,v,c,h,hv,hc=>by
  rw [Lib.parseUint10] at h
  injection h with h
  subst h
  rw [List.nil_append,Lib.parseUint10,if_pos hc,if_neg (by omega),if_neg (by omega),Lib.parseUint10]
 | b :: l,acc,v,c,h,hv,hc=>by
  rw [Lib.parseUint10] at h
  rw [List.cons_append,Lib.parseUint10]
  split at h
  ·rename_i h1
   split at h
   ·cases h
   ·rename_i h2
    split at h
    ·cases h
    ·rename_i h3
     rw [if_pos h1,if_neg h2,if_neg h3]
     exact parse_append l _ v c h hv hc
  ·cases h
theorem parse_dec:∀ (u:Nat),u<1844674407370955161→Lib.parseUint10 0 (Lib.decDigits u)=.ok u:=by
 intro u
 induction u using Nat.strongRecOn with
 | ind u ih =>
  intro hu
  by_cases h:u<10
  ·rw [Lib.decDigits_one h,Lib.parseUint10,if_pos (by rw [UInt8.toNat_ofNat'];omega),if_neg (by omega),if_neg (by rw [UInt8.toNat_ofNat'];omega),Lib.parseUint10,UInt8.toNat_ofNat']
   congr 1;omega
  ·rw [Lib.decDigits,dif_neg h,parse_append _ _ _ _ (ih (u / 10) (by omega) (by omega)) (by omega) (by rw [UInt8.toNat_ofNat'];omega),UInt8.toNat_ofNat']
   congr 1;omega
theorem dec_ne (u:Nat):Lib.decDigits u≠[]:=by
 rw [Lib.decDigits];split<;>simp
theorem atoi_dec (u:Nat) (hu:u<2147483648):Lib.atoiAll (Lib.decDigits u)=.ok (u:Int):=by
 have hp:=parse_dec u (by omega)
 have hr:=dec_range u
 have hne:=dec_ne u
 generalize Lib.decDigits u=d at hp hr hne
 rcases d with _|⟨c,r⟩
 ·exact absurd rfl hne
 ·have hc:=hr c List.mem_cons_self
  unfold Lib.atoiAll Lib.parseMag
  have n43:¬ c.toNat=43:=by omega
  have n45:¬ c.toNat=45:=by omega
  simp only [n43,n45,or_self,if_false,reduceCtorEq,hp,not_false_eq_true,true_and,false_and]
  rw [if_neg (by omega)]
theorem numB_itoa (n:Int) (h0:0≤n) (h1:n<2147483648):numB (itoaB n)=some n:=by
 obtain ⟨u,rfl⟩:∃ u:Nat,n=u:=⟨n.toNat,by omega⟩
 have e:(itoaB (u:Int)).data.toList=Lib.decDigits u:=by
  unfold itoaB;rw [Lib.itoa_nonneg]
 unfold numB
 rw [e,atoi_dec u (by omega)]
 simp only [h0,h1,and_self,if_true]
theorem itoaB_range (n:Int) (h0:0≤n):∀ c ∈ (itoaB n).data.toList,48≤c.toNat∧c.toNat≤57:=by
 obtain ⟨u,rfl⟩:∃ u:Nat,n=u:=⟨n.toNat,by omega⟩
 have e:(itoaB (u:Int)).data.toList=Lib.decDigits u:=by
  unfold itoaB;rw [Lib.itoa_nonneg]
 rw [e];exact dec_range u
theorem cut_at (a b sep:List UInt8) (c:UInt8) (q:List UInt8) (hs:sep=c :: q) (ha:¬ c ∈ a):Lib.cut (a++sep++b) sep=(a,b,true):=by
 have hi:Lib.index (a++sep++b) sep=(a.length:Int):=by
  refine Lib.index_first (by simp) ?_ (fun j hj=>?_)
  ·unfold Lib.occAt
   rw [List.append_assoc,List.drop_left,List.isPrefixOf_iff_prefix]
   exact List.prefix_append _ _
  ·unfold Lib.occAt
   rw [List.append_assoc,List.drop_append_of_le_length (by omega),hs]
   rcases hd:a.drop j with _|⟨d,e⟩
   ·have:=congrArg List.length hd;rw [List.length_drop] at this;simp at this;omega
   ·have hm:d ∈ a:=List.mem_of_mem_drop (i:=j) (by rw [hd];exact List.mem_cons_self)
    have hne:c≠d:=fun e2=>ha (e2 ▸ hm)
    simp [List.isPrefixOf,hne]
 unfold Lib.cut
 rw [hi,if_pos (by omega)]
 simp only [Int.toNat_natCast,List.append_assoc]
 rw [List.take_left,← List.append_assoc,← List.length_append,List.drop_left]
theorem sideB_from (a b:Int) (h0:0≤a) (h1:firstI a b<2147483648) (h2:0≤b) (h3:b<2147483648):sideB (fromB a b)=some (a,b):=by
 have hf:0≤firstI a b:=by unfold firstI;split<;>omega
 have e:(fromB a b).data.toList=(itoaB (firstI a b)).data.toList++[44]++(itoaB b).data.toList:=by
  unfold fromB;simp only [ByteArray.data_append,Array.toList_append]
 have hc:=cut_at (itoaB (firstI a b)).data.toList (itoaB b).data.toList [44] 44 [] rfl (fun h=>by have:=itoaB_range _ hf _ h;have e4:(44:UInt8).toNat=44:=rfl;omega)
 rw [← e] at hc
 unfold sideB cutIs cutA cutC
 rw [hc]
 simp only [if_true]
 rw [show (⟨(itoaB (firstI a b)).data.toList.toArray⟩:ByteArray)=itoaB (firstI a b) from rfl,show (⟨(itoaB b).data.toList.toArray⟩:ByteArray)=itoaB b from rfl,numB_itoa _ hf h1,numB_itoa _ h2 h3]
 simp only
 rw [if_neg (by unfold firstI;split<;>omega)]
 congr 1
 unfold firstI
 split<;>simp<;>omega
theorem fromB_no (a b:Int) (h0:0≤a) (h2:0≤b) (c:UInt8) (hc:c.toNat<44):¬ c ∈ (fromB a b).data.toList:=by
 have hf:0≤firstI a b:=by unfold firstI;split<;>omega
 have e:(fromB a b).data.toList=(itoaB (firstI a b)).data.toList++[44]++(itoaB b).data.toList:=by
  unfold fromB;simp only [ByteArray.data_append,Array.toList_append]
 rw [e]
 intro h
 rcases List.mem_append.1 h with h|h
 ·rcases List.mem_append.1 h with h|h
  ·have:=itoaB_range _ hf _ h;omega
  ·obtain rfl:=List.mem_singleton.1 h;exact absurd hc (by decide)
 ·have:=itoaB_range _ h2 _ h;omega
theorem pre_at (p r:List UInt8):Lib.hasPrefix (p++r) p=true∧Lib.trimPrefix (p++r) p=r:=by
 have h:Lib.hasPrefix (p++r) p=true:=by unfold Lib.hasPrefix;rw [List.isPrefixOf_iff_prefix];exact List.prefix_append _ _
 exact ⟨h,by unfold Lib.trimPrefix;rw [if_pos h,List.drop_left]⟩
theorem suf_at (r p:List UInt8):Lib.hasSuffix (r++p) p=true∧Lib.trimSuffix (r++p) p=r:=by
 have h:Lib.hasSuffix (r++p) p=true:=by unfold Lib.hasSuffix;rw [List.isSuffixOf_iff_suffix];exact List.suffix_append _ _
 exact ⟨h,by unfold Lib.trimSuffix;rw [if_pos h,List.length_append,Nat.add_sub_cancel,List.take_left]⟩
structure HeadOk (x:Hk):Prop where
 a0:0≤x.f0
 a1:firstI x.f0 x.f1<2147483648
 b0:0≤x.f1
 b1:x.f1<2147483648
 c0:0≤x.f2
 c1:firstI x.f2 x.f3<2147483648
 d0:0≤x.f3
 d1:x.f3<2147483648
theorem headOf_bytes (x:Hk):(headOf x).data.toList=[64,64,32,45]++(((fromB x.f0 x.f1).data.toList++[32,43]++(fromB x.f2 x.f3).data.toList)++[32,64,64,10]):=by
 unfold headOf
 simp only [ByteArray.data_append,Array.toList_append,List.append_assoc]
 rfl
theorem head_at (x:Hk) (h:HeadOk x):headB (headOf x)=some ⟨x.f0,x.f1,x.f2,x.f3,[]⟩:=by
 obtain ⟨p1,p2⟩:=pre_at [64,64,32,45] (((fromB x.f0 x.f1).data.toList++[32,43]++(fromB x.f2 x.f3).data.toList)++[32,64,64,10])
 obtain ⟨s1,s2⟩:=suf_at ((fromB x.f0 x.f1).data.toList++[32,43]++(fromB x.f2 x.f3).data.toList) [32,64,64,10]
 have hc:=cut_at (fromB x.f0 x.f1).data.toList (fromB x.f2 x.f3).data.toList [32,43] 32 [43] rfl (fromB_no _ _ h.a0 h.b0 32 (by decide))
 rw [← headOf_bytes] at p1 p2
 have e1:(preB (headOf x) [64,64,32,45]).data.toList=(fromB x.f0 x.f1).data.toList++[32,43]++(fromB x.f2 x.f3).data.toList++[32,64,64,10]:=p2
 have e2:(headT (headOf x)).data.toList=(fromB x.f0 x.f1).data.toList++[32,43]++(fromB x.f2 x.f3).data.toList:=by
  unfold headT sufB
  show Lib.trimSuffix _ _=_
  rw [e1,s2]
 unfold headB cutIs cutA cutC
 rw [e1,e2,hc,if_pos ⟨p1,s1,rfl⟩]
 show (match sideB (fromB x.f0 x.f1),sideB (fromB x.f2 x.f3) with|some p,some q=>some (⟨p.1,p.2,q.1,q.2,[]⟩:Hk)|_,_=>none)=_
 rw [sideB_from _ _ h.a0 h.a1 h.b0 h.b1,sideB_from _ _ h.c0 h.c1 h.d0 h.d1]
theorem head_line (x:Hk) (h:HeadOk x):IsLn (headOf x):=by
 refine ⟨[64,64,32,45]++(((fromB x.f0 x.f1).data.toList++[32,43]++(fromB x.f2 x.f3).data.toList)++[32,64,64]),by rw [headOf_bytes];simp,?_⟩
 intro hm
 simp only [List.mem_append] at hm
 rcases hm with hm|((hm|hm)|hm)|hm
 ·exact absurd hm (by decide)
 ·exact fromB_no _ _ h.a0 h.b0 10 (by decide) hm
 ·exact absurd hm (by decide)
 ·exact fromB_no _ _ h.c0 h.d0 10 (by decide) hm
 ·exact absurd hm (by decide)
theorem canH_ok {x:Hk} (h:canH x=true):HeadOk x∧okL false x.f4=true∧x.f1=manyL 45 x.f4∧x.f3=manyL 43 x.f4∧∀ s ∈ x.f4,noNl s=true:=by
 unfold canH bndH at h
 rw [Bool.and_eq_true,Bool.and_eq_true,decide_eq_true_eq,List.all_eq_true] at h
 obtain ⟨h1,h2,h3,h4,h5,h6⟩:=h
 obtain ⟨r1,r2,r3,r4,r5⟩:=of_decide_eq_true h2
 exact ⟨⟨r2,h3,by omega,h4,r3,h5,by omega,h6⟩,r1,r4,r5,h1⟩
end Go.Proofs.YtamojbfmphainaaDoor.Pr
-- shrunk
