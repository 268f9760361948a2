/-
Several plain texts in one.
-/
import Derived.RangeFuncBox
import Derived.RangeFuncLeaves
import Derived.Shelf.Abstract
import Derived.WalkKit
import Derived.OwnWalkIn
import Derived.TacticsInMore
import Derived.LoopNIn
import Derived.LoopIn
import Derived.Maps.AppendAt
import Derived.Test.YtamojbfmphainaaDoorK0
import Derived.Test.YtamojbfmphainaaDoorK2
import Derived.Lib.SlicesS
import Derived.Test.YtamojbfmphainaaDoorK1
import Derived.Lib.ItoaLen
import Derived.Lib.AppendIntMem
import Derived.Lib.QuietBelow
import Derived.StillTailTactics
import Derived.Outline
import Derived.Test.YtamojbfmphainaaDoorK3
import Derived.Test.YtamojbfmphainaaDoorD16
import Derived.Test.YtamojbfmphainaaDoorD17a
set_option linter.unusedVariables false
set_option linter.unusedSimpArgs false
/-
A range over an iterator that keeps its state in one captured cell: the law of the caller, for a body that never leaves the loop and leaves that cell alone.
-/
namespace Go.Proofs.YtamojbfmphainaaDoor.Pr
open Go.RowKit
variable {F:Fence} {n:Nat} {P:Program}
def SeqCell {α:Type} (F:Fence) (n:Nat) (P:Program) (g:Nat) (lb:Array Value) (encs:α→Array Value) (B:Nat) (xs:List α) (st:World→Prop):Prop :=
 ∀ (l:Nat) (J:List α→World→Prop) (W:World),st W→(∀ pre W1 v,J pre W1→J pre (W1.setCell ⟨B,0,none⟩ v)) →
  (∀ pre x W1,J pre W1→pre.length<xs.length→YieldAt F (n - 1) P l (encs x) W1 fun e W'=>e=.returned (.bool true)∧J (pre++[x]) W'∧W'.heap[B]?=W1.heap[B]?) →
  J [] W →
  CallsIn F n P g (#[.func (.yield l) #[] #[]]++lb) W fun e W'=>(∃ v,e=.returned v)∧J xs W'
theorem wpIn_rangeFunc_cell {α:Type} {g:Operand} {ps:Array Tmp} {assign body:Code} {Q:Exit→Act→World→Prop} {a:Act} {w:World}
  (hro:F.round=none) (h1:1≤n) {gf:Nat} {lb:Array Value} (hg:a.eval g=.func (.func gf) #[] lb) (hFg:F.fn gf) (eg:∀ args w,(callFunc gf args).run P w=.ok (.enter gf args) w)
  {encs:α→Array Value} {B:Nat} {xs:List α} {st:World→Prop} (hseq:SeqCell F (n - 1) P gf lb encs B xs st) (hB:B<w.heap.size) (hst:∀ W,W.heap[B]?=w.heap[B]?→st W) (hps:∀ x,(encs x).size=ps.size)
  (I:List α→World→Prop) (hI:OwnFrom w.heap.size I) (hIB:∀ pre W v,I pre W→I pre (W.setCell ⟨B,0,none⟩ v)) (h0:I [] w) (a₁:α→Act)
  (hassign:∀ (l:Nat) (x:α) (W:World) (K:Act→World→Prop),K (a₁ x) W →
   assign.wpIn (F.inRound l) (n - 1 - 1) P (Exit.then K (fun _ _ _=>False)) { tmps:=(ps.zip (encs x)).foldl (fun t (p,v)=>t.setIfInBounds p v) a.tmps,defers:=[] } W)
  (hbody:∀ (l:Nat) (pre:List α) (x:α) (W:World),I pre W→pre.length<xs.length→body.wpIn (F.inRound l) (n - 1 - 1) P (ownPostK (fun W W'=>W'.heap[B]?=W.heap[B]?) I (fun _ _ _=>False) (pre++[x]) W) (a₁ x) W)
  (hdone:∀ (D:Nat) (W:World),w.heap.size≤D→I xs W→W.heap[D]?=some (.deferred (some []))→Q .normal { a with defers:={ target:=.collected D,args:=#[] } :: a.defers } W) :
  (Code.rangeFunc g ps assign body).wpIn F n P Q a w:=by
 refine wpIn_rangeFunc ?_
 intro fn hfn
 rw [hro]
 obtain ⟨rec,hrec⟩:∃ rec:LoopState→Option Code→Loop,rec=fun st pe=>{ state:=st,pending:=pe,fn,tmps:=a.tmps,params:=ps,assign,body,defers:=w.heap.size }:=⟨_,rfl⟩
 obtain ⟨W1,hW1⟩:∃ W1,(w.alloc (.deferred (some []))).alloc (.loop (rec .ready none))=W1:=⟨_,rfl⟩
 have hL1:W1.heap[w.heap.size+1]?=some (.loop (rec .ready none)):=by
  rw [← hW1];have:=World.alloc_heap_new (w.alloc (.deferred (some []))) (.loop (rec .ready none));rwa [World.size_alloc] at this
 have hK1:W1.heap[w.heap.size]?=some (.deferred (some [])):=by
  rw [← hW1];exact (Below.heap_alloc _ _ _ (by simp)).trans (World.alloc_heap_new w _)
 have hI1:I [] W1:=by rw [← hW1];exact hI.alloc _ (hI.alloc _ h0)
 have hB1:W1.heap[B]?=w.heap[B]?:=by
  rw [← hW1,Below.heap_alloc _ _ _ (by simp;omega),Below.heap_alloc _ _ _ hB]
 refine ⟨w.heap.size+1,[{ target:=.collected w.heap.size,args:=#[] }],W1,{ target:=.fn (.func gf) lb,args:=#[.func (.yield (w.heap.size+1)) #[] #[]] },W1,gf,
  #[.func (.yield (w.heap.size+1)) #[] #[]]++lb,W1,?_,?_,?_,?_,fun _=>h1,?_⟩
 ·rw [← hW1,hrec];exact run_enterLoop_outer _ _ _ _ _
 ·simp only [resolve,hg]
  simp [go_sem]
 ·intro f' hf';simp [Target.leads] at hf';subst hf';exact hFg
 ·simp [invoke,go_sem,eg]
 ·refine (hseq (w.heap.size+1)
   (fun pre W=>I pre W∧W.heap[w.heap.size+1]?=some (.loop (rec .ready none))∧W.heap[w.heap.size]?=some (.deferred (some [])))
   W1 (hst _ hB1)
   (fun pre A v hs=>⟨hIB _ _ _ hs.1,(Below.heap_setCell _ _ _ _ (by show _≠B;omega)).trans hs.2.1,(Below.heap_setCell _ _ _ _ (by show _≠B;omega)).trans hs.2.2⟩)
   ?_ ⟨hI1,hL1,hK1⟩).mono ?_
  ·rintro pre x W ⟨hi,hl,hk⟩ hlen
   have hlt:w.heap.size+1<W.heap.size:=(Array.getElem?_eq_some_iff.1 hl).1
   have hy:=run_yield (P:=P) (args:=encs x) hl (by rw [hrec];exact hps x)
   rw [hrec] at hy
   refine ⟨fn,_,assign,body,hy,roundIn_of_wpIn hfn (hassign _ x W _ ⟨_,run_beginRound hl (by rw [hrec]),?_⟩)⟩
   have hl2:(W.putObj (w.heap.size+1) (.loop { rec .ready none with state:=.busy })).heap[w.heap.size+1]?=some (.loop { rec .ready none with state:=.busy }):=World.putObj_heap_same hlt
   have hk2:(W.putObj (w.heap.size+1) (.loop { rec .ready none with state:=.busy })).heap[w.heap.size]?=some (.deferred (some [])):=(World.putObj_heap_other (by omega)).trans hk
   refine wpIn_mono (hbody _ pre x _ (hI.putObj _ hi (by omega) hl rfl) hlen) ?_
   have fin:∀ (W3:World),KeepsOthers (W.putObj (w.heap.size+1) (.loop { rec .ready none with state:=.busy })) W3 →
     (Instr.endRound (w.heap.size+1) none).run P W3=.ok (.bool true) (W3.putObj (w.heap.size+1) (.loop (rec .ready none))) ∧
     W3.heap[w.heap.size+1]?=some (.loop { rec .ready none with state:=.busy }) ∧
     (W3.putObj (w.heap.size+1) (.loop (rec .ready none))).heap[w.heap.size+1]?=some (.loop (rec .ready none)) ∧
     (W3.putObj (w.heap.size+1) (.loop (rec .ready none))).heap[w.heap.size]?=some (.deferred (some [])):=fun W3 hk3=>by
    have hl3:=hk3.same _ _ hl2 rfl
    have:=run_endRound (P:=P) none hl3
    rw [hrec] at this ⊢
    exact ⟨this,by rw [hrec] at hl3;exact hl3,World.putObj_heap_same (Array.getElem?_eq_some_iff.1 hl3).1,(World.putObj_heap_other (by omega)).trans (hk3.same _ _ hk2 rfl)⟩
   rintro e a3 W3 hp
   cases e with
   | normal =>
    obtain ⟨hk3,hkp3,hi3⟩:=hp
    obtain ⟨hr,hl3,hl4,hk4⟩:=fin W3 hk3
    exact ⟨_,_,hr,rfl,⟨hI.putObj _ hi3 (by omega) hl3 rfl,hl4,hk4⟩,(World.putObj_heap_other (by omega)).trans (hkp3.trans (World.putObj_heap_other (by omega)))⟩
   | ret=>exact hp.2.elim
   | exit id=>exact hp.2.elim
   | goto t=>exact hp.2.elim
   | panic ch=>exact hp.elim
   | outgrown=>exact hp.elim
  ·rintro e W2 ⟨⟨v,rfl⟩,hi,hl,hk⟩
   exact ⟨none,_,by have:=run_endLoop (P:=P) hl (by rw [hrec];simp);rw [hrec] at this;exact this,hdone _ _ (Nat.le_refl _) (hI.putObj _ hi (by omega) hl rfl) ((World.putObj_heap_other (by omega)).trans hk)⟩
end Go.Proofs.YtamojbfmphainaaDoor.Pr
-- shrunk
/-
strings.Index of one byte; strings.Join.
-/
namespace Go.Proofs.YtamojbfmphainaaDoor.Pr
open Go.RowKit Go.Proofs.YtamojbfmphainaaDoorW.PrintWords Go.Proofs.YtamojbfmphainaaDoorW.PrintLast Go.Proofs.YtamojbfmphainaaDoorW.PrintMore
theorem index_one (s:ByteArray) (c:UInt8) (w:World) :
  Calls Tryd.prog 65 #[.string s,.string ⟨#[c]⟩] w fun e w'=>e=.returned (.int .i64 (Lib.indexByte s.data.toList c))∧w'=w:=Tryd.strings_Index_one s c w
def strings_Index.f (a0:ByteArray) (a1:ByteArray):Option Int:=if a1.size=1 then some (Lib.indexByte a0.data.toList (a1.data.toList.headD 0)) else none
theorem one_byte (a:ByteArray) (h:a.size=1):a=⟨#[a.data.toList.headD 0]⟩:=by
 rcases a with ⟨⟨l⟩⟩
 match l with
 | []=>cases h
 | [c]=>rfl
 | a :: b :: l=>exact absurd (show l.length+1+1=1 from h) (by omega)
theorem strings_Index.calls (a0:ByteArray) (a1:ByteArray) (r:Int) (w:World) (h:strings_Index.f a0 a1=some r) :
  Calls Tryd.prog 65 #[.string a0,.string a1] w fun e w'=>e=.returned (.int .i64 r)∧Drawn0 w w':=by
 unfold strings_Index.f at h
 by_cases hs:a1.size=1
 ·rw [if_pos hs] at h
  obtain rfl:=Option.some.inj h
  have he:=one_byte a1 hs
  have h1:=index_one a0 (a1.data.toList.headD 0) w
  rw [← he] at h1
  exact h1.mono fun e w' hh=>⟨hh.1,by rw [hh.2];exact Drawn0.refl _⟩
 ·rw [if_neg hs] at h;cases h
end Go.Proofs.YtamojbfmphainaaDoor.Pr
-- shrunk
/-
lines.each and its iterator: it makes a round for each line of the text; slices.AppendSeq, slices.Collect, lines.Split and lines.Count over it.
-/
namespace Go.Proofs.YtamojbfmphainaaDoor.Pr
open Go.RowKit Go.Proofs.YtamojbfmphainaaDoorW.PrintWords Go.Proofs.YtamojbfmphainaaDoorW.PrintLast Go.Proofs.YtamojbfmphainaaDoorW.PrintMore
attribute [local go_sem] Oper.semAt_some
def cutAt (s:ByteArray):Nat:=if Lib.indexByte s.data.toList 10+1=0 then s.size else (Lib.indexByte s.data.toList 10+1).toNat
theorem indexByte_lt (l:List UInt8) (c:UInt8):Lib.indexByte l c = -1∨(0≤Lib.indexByte l c∧Lib.indexByte l c<l.length):=by
 induction l with
 | nil=>exact .inl rfl
 | cons b l ih =>
  unfold Lib.indexByte
  by_cases h:b=c
  ·subst h;right;simp
  ·rcases ih with h1|⟨h1,h2⟩
   ·left;simp [h,h1]
   ·right
    have h3:¬ Lib.indexByte l c = -1:=by omega
    simp [h,h3];omega
theorem cutAt_pos (s:ByteArray) (h:0<s.size):0<cutAt s∧cutAt s≤s.size:=by
 have h1:=indexByte_lt s.data.toList 10
 have h2:s.data.toList.length=s.size:=rfl
 unfold cutAt
 split<;>omega
def linesB (s:ByteArray):List ByteArray :=
 if h:s.size=0 then [] else s.extract 0 (cutAt s) :: linesB (s.extract (cutAt s) s.size)
termination_by s.size
decreasing_by
 have:=cutAt_pos s (by omega)
 rw [ByteArray.size_extract,Nat.min_self];omega
theorem linesB_nil (s:ByteArray) (h:s.size=0):linesB s=[]:=by rw [linesB,dif_pos h]
theorem linesB_cons (s:ByteArray) (h:s.size≠0):linesB s=s.extract 0 (cutAt s) :: linesB (s.extract (cutAt s) s.size):=by rw [linesB,dif_neg h]
def leftC (B:Nat) (w:World):Nat:=match w.heap[B]? with
 | some (Obj.cells cs _ _)=>(match cs[0]? with|some (Value.string s)=>s.size|_=>0)
 | _=>0
theorem leftC_eq {B:Nat} {w:World} {t:TypeId} {s:ByteArray} (h:Boxed w B t (.string s)):leftC B w=s.size:=by
 unfold leftC;rw [show w.heap[B]?=_ from h];rfl
theorem str_iff (x y:ByteArray):x.toList=y.toList ↔ x=y:=by
 have:=Lib.bytes_beq_iff x y
 rwa [beq_iff_eq] at this
theorem empty_toList:ByteArray.empty.toList=([]:List UInt8):=by
 rw [ByteArray.toList,ByteArray.toList.loop];simp
theorem str_nil (s:ByteArray) (h:s.size=0):s.toList=[]:=by
 rw [ByteArray.size_eq_zero_iff.1 h,empty_toList]
theorem str_ne (s:ByteArray) (h:s.size≠0):s.toList≠[]:=by
 intro e
 rw [← empty_toList,str_iff] at e
 exact h (by rw [e];rfl)
set_option maxRecDepth 100000 in
set_option maxHeartbeats 1000000 in
theorem each1_in (n:Nat) (hn:1≤n) (l B:Nat) (s:ByteArray) (hs:s.size≤9223372036854775807) (J:List ByteArray→World→Prop)
  (hJ:∀ pre W1 v,J pre W1→J pre (W1.setCell ⟨B,0,none⟩ v))
  (hY:∀ pre x W,J pre W→pre.length<(linesB s).length→YieldAt Fence.wide (n - 1) Tryd.prog l #[.string x] W fun e W'=>e=.returned (.bool true)∧J (pre++[x]) W'∧W'.heap[B]?=W.heap[B]?)
  (W:World) (hB:Boxed W B 9 (.string s)) (h0:J [] W) :
  CallsIn Fence.wide n Tryd.prog 64 #[.func (.yield l) #[] #[],.pointer (some ⟨B,0,none⟩)] W fun e W'=>(∃ v,e=.returned v)∧J (linesB s) W':=by
 refine callsIn_of_wp Tryd.func64 rfl trivial ?_ rfl
 simp only [Tryd.ntmps64,List.size_toArray,List.length_cons,List.length_nil,Nat.reduceAdd,Nat.reduceSub,Array.replicate_succ,Array.replicate_zero,List.push_toArray,List.append_toArray,List.nil_append,List.cons_append]
 gi_wp2
 gi_loopw [3] (fun i wr=>∃ (pre:List ByteArray) (s':ByteArray),s'.size≤s.size∧linesB s=pre++linesB s'∧Boxed wr B 9 (.string s')∧J pre wr)
  (fun i wr=>leftC B wr)
 case atStart=>exact ⟨[],s,Nat.le_refl _,rfl,hB,h0⟩
 case round =>
  obtain ⟨pre,s',hle,hx,hb,hJs⟩:=hrel
  have hc:=hb.cell
  have hf:=hb.frozen
  by_cases hz:s'.size=0
  ·have e1:=str_nil s' hz
   have e2:(!s'.toList.isEmpty)=false:=by rw [e1];rfl
   gi_wp2
   go_end0
   exact ⟨⟨_,rfl⟩,by rw [hx,linesB_nil _ hz,List.append_nil];exact hJs⟩
  ·have e1:=str_ne s' hz
   have e2:(!s'.toList.isEmpty)=true:=by
    cases h:s'.toList with
    | nil=>exact absurd h e1
    | cons _ _=>rfl
   obtain ⟨hp,hq⟩:=cutAt_pos s' (by omega)
   obtain ⟨fn,tmps,assign,body,hy,hR⟩:=hY pre (s'.extract 0 (cutAt s')) wr hJs (by rw [hx,linesB_cons _ hz];simp)
   have h1:=indexByte_lt s'.data.toList 10
   have h2:s'.data.toList.length=s'.size:=rfl
   have hL:=Aside0.mk (linesB_cons _ hz)
   have hX:=Aside0.mk hx
   have HB0:=Aside0.mk hb
   have hs:=Aside0.mk (Nat.le_trans (Nat.le_refl _) hle)
   obtain ⟨c,hc⟩:∃ c,c=cutAt s':=⟨_,rfl⟩
   have hIx:=index_one s' 10
   have hJJ:=Aside0.mk hJs
   have hsz:s'.size≤9223372036854775807:=by omega
   have hcs:(cutAt s'=s'.size∧Lib.indexByte s'.data.toList 10 = -1)∨(Lib.indexByte s'.data.toList 10=(cutAt s':Int) - 1):=by
    unfold cutAt
    split<;>omega
   rw [← hc] at hp hq hy hL hcs hR
   clear h1 h2 hx hc hJs hle
   rcases hcs with ⟨hcc,hi⟩|hi
   ·rw [hi] at hIx
    subst hcc
    rw [ByteArray.extract_zero_size] at hy hR hL
    have he:s'.extract s'.size s'.size=ByteArray.empty:=ByteArray.size_eq_zero_iff.1 (by rw [ByteArray.size_extract];omega)
    rw [he] at hL
    clear he
    have HI:=Aside0.mk hIx
    clear hIx hi
    gi_wp2_with (refine ⟨trivial,?_⟩;gi_at_call 65;refine (callsIn_wide.2 (HI.out _)).mono ?_;rintro e w' ⟨rfl,rfl⟩)
    refine hR.mono ?_
    rintro e W3 ⟨rfl,hJ3,hB3⟩
    have hb3:Boxed W3 B 9 (.string s'):=Eq.trans hB3 hb
    have hc3:=hb3.cell
    have hf3:=hb3.frozen
    have HJ:=Aside0.mk hJ3
    have HB:=Aside0.mk hb3
    clear hJ3 hB3 hb3 hc hf hb
    gi_wp2
    go_roundw
    case rel=>exact ⟨pre++[s'],ByteArray.empty,Nat.zero_le _,by rw [hX.out,hL.out];simp,HB.out.set _,hJ _ _ _ HJ.out⟩
    case measure=>rw [leftC_eq (HB.out.set _),leftC_eq HB0.out];exact hp
   ·rw [hi] at hIx
    have HI:=Aside0.mk hIx
    clear hIx hi
    have f1:(0:Int)≤(c:Int) - 1:=by omega
    have f2:(c:Int)≤9223372036854775807:=by omega
    gi_wp2_with (refine ⟨trivial,?_⟩;gi_at_call 65;refine (callsIn_wide.2 (HI.out _)).mono ?_;rintro e w' ⟨rfl,rfl⟩)
    refine hR.mono ?_
    rintro e W3 ⟨rfl,hJ3,hB3⟩
    have hb3:Boxed W3 B 9 (.string s'):=Eq.trans hB3 hb
    have hc3:=hb3.cell
    have hf3:=hb3.frozen
    have HJ:=Aside0.mk hJ3
    have HB:=Aside0.mk hb3
    clear hJ3 hB3 hb3 hc hf hb
    gi_wp2
    go_roundw
    case rel=>exact ⟨pre++[s'.extract 0 c],s'.extract c s'.size,by have h_:=hs.out;rw [ByteArray.size_extract,Nat.min_self];omega,by rw [hX.out,hL.out];simp,HB.out.set _,hJ _ _ _ HJ.out⟩
    case measure=>rw [leftC_eq (HB.out.set _),leftC_eq HB0.out,ByteArray.size_extract,Nat.min_self];omega
theorem each_cell (n:Nat) (hn:1≤n) (B:Nat) (s:ByteArray) (hs:s.size≤9223372036854775807) :
  SeqCell Fence.wide n Tryd.prog 64 #[.pointer (some ⟨B,0,none⟩)] (fun x:ByteArray=>#[Value.string x]) B (linesB s) (fun W=>Boxed W B 9 (.string s)) :=
 fun l J W hB hJ hY h0=>each1_in n hn l B s hs J hJ hY W hB h0
set_option maxHeartbeats 1000000 in
theorem each_in (n:Nat) (s:ByteArray) (w:World) :
  CallsIn Fence.wide n Tryd.prog 39 #[.string s] w fun e w'=>e=.returned (.func (.func 64) #[] #[.pointer (some ⟨w.heap.size,0,none⟩)])∧w'=w.alloc (.cells #[.string s] 9):=by
 refine callsIn_of_wp Tryd.func39 rfl trivial ?_ rfl
 simp only [Tryd.ntmps39,List.size_toArray,List.length_cons,List.length_nil,Nat.reduceAdd,Nat.reduceSub,Array.replicate_succ,Array.replicate_zero,List.push_toArray,List.append_toArray,List.nil_append,List.cons_append]
 gi_wp2
 go_ret
 exact ⟨rfl,rfl⟩
theorem linesB_len (s:ByteArray):(linesB s).length≤s.size:=by
 generalize hn:s.size=n
 induction n using Nat.strongRecOn generalizing s with
 | _ n ih =>
  by_cases h:s.size=0
  ·rw [linesB_nil s h];simp
  ·have hp:=cutAt_pos s (by omega)
   rw [linesB_cons s h,List.length_cons]
   have:=ih (s.extract (cutAt s) s.size).size (by rw [ByteArray.size_extract,Nat.min_self];omega) _ rfl
   rw [ByteArray.size_extract,Nat.min_self] at this
   omega
set_option maxRecDepth 100000 in
set_option maxHeartbeats 2000000 in
theorem appendSeq_in (n:Nat) (hn:3≤n) (B:Nat) (s:ByteArray) (hs:s.size≤4398046511104) (w:World) (hB:Boxed w B 9 (.string s)) :
  CallsIn Fence.wide n Tryd.prog 66 #[.slice none 0 0,.func (.func 64) #[] #[.pointer (some ⟨B,0,none⟩)]] w fun e W'=>∃ v,e=.returned v∧W'.ownsRow w.heap.size 9 1 v (linesB s).length ((linesB s).map Value.string)∧Below B w W':=by
 have h1:1≤n:=by omega
 have hlen:=linesB_len s
 obtain ⟨i0,hi,hz0,hz1,hz2⟩:=info_parts info9
 refine callsIn_of_wp_marks Tryd.func66 rfl trivial ?_ rfl
 simp only [Tryd.ntmps66,List.size_toArray,List.length_cons,List.length_nil,Nat.reduceAdd,Nat.reduceSub,Array.replicate_succ,Array.replicate_zero,List.push_toArray,List.append_toArray,List.nil_append,List.cons_append]
 gi_wp2
 have hlt:=hB.lt
 have bO:=Boxed.new w 33 (.slice none 0 0)
 have hB0:Below B w (w.alloc (.cells #[.slice none 0 0] 33)):=(Below.refl _ w).alloc (by omega) _
 have own_b:∀ {W:World} {v:Value} {k:Nat} {xs:List Value},W.ownsRow w.heap.size 9 1 v k xs→some B≠v.ownBlock:=by
  intro W v k xs h
  rcases h.2 with ⟨rfl,_⟩|⟨g,cap,cur,rfl,hg,_⟩
  ·simp [Value.ownBlock]
  ·intro e'
   obtain rfl:B=g:=by simpa [Value.ownBlock] using e'
   omega
 refine wpIn_rangeFunc_cell rfl h1 (gf:=64) (lb:=#[.pointer (some ⟨B,0,none⟩)]) rfl trivial (enters_of Tryd.func64 (by kernel_rfl) rfl)
  (each_cell (n - 1) (by omega) B s (by omega)) (by simp;omega) (fun W hW=>Eq.trans hW (hB.alloc _)) (fun _=>rfl)
  (fun pre W=>(∃ v,Boxed W w.heap.size 33 v∧W.ownsRow w.heap.size 9 1 v pre.length (pre.map Value.string)∧True)∧Below B w W)
  (OwnFrom.and (Own.from (holdsRow_own w.heap.size w.heap.size 33 9 1 (fun pre:List ByteArray=>pre.length) (fun pre=>pre.map Value.string) (fun pre v=>True)) _) (ownFrom_below (by omega) (by simp;omega)))
  (fun pre W u h=>⟨by obtain ⟨v,a,b,c⟩:=h.1;exact ⟨v,a.kept (grownBy_setCell' W B u) (by simp;omega),b.kept (grownBy_setCell' W B u) (.inr (own_b b).symm),c⟩,h.2.setCell (p:=⟨B,0,none⟩) (Nat.le_refl _) _⟩)
  ⟨⟨_,bO,World.ownsRow_nil _ _ _ _,trivial⟩,hB0⟩
  (fun x=>{ tmps:=#[.slice none 0 0,.func (.func 64) #[] #[.pointer (some ⟨B,0,none⟩)],.pointer (some ⟨w.heap.size,0,none⟩),undef,.slice none 0 0,.string x,.func (.func 64) #[] #[.pointer (some ⟨B,0,none⟩)],.string x,undef,undef,undef,undef,undef],defers:=[] }) ?assign ?body ?done
 case assign =>
  intro l x W K hK
  gi_wp2
  exact hK
 case body =>
  rintro l pre x W ⟨⟨v,hv,hrow,_⟩,hb⟩ hlt2
  have hc:=hv.cell
  have hsz:=hb.size
  have hml:(linesB s).length≤maxLen:=by unfold maxLen;omega
  gi_wp2_with (gi_at_builtin;refine wpListIn_append_own _ rfl _ _ 33 rfl w.heap.size 9 i0 (.string ⟨#[]⟩) 1 16 Tryd.underlying33 hi hz0 hz1 hz2 rfl (by decide) _ _ _ rfl (hrow.alloc _) ⟨W.heap.size,0,none⟩ 1 1 [.string x] rfl rfl (cell_one_new _ _ _) (by simp [Value.oneCell']) (by omega) (by omega) (by simp;omega) ?_;intro v' w1 hown' hgrow _;obtain ⟨g',cap',rfl⟩:=ownsRow_succ hown';obtain ⟨hv1,hv2,hr2,hk2,hb2⟩:=hv.appended (by decide) hrow (by omega) (Nat.le_refl _) hown' hgrow;have hc1:=hv1.cell;have hf1:=hv1.frozen)
  exact ⟨hk2,hb2.block B hlt,⟨_,hv2,by simpa using hr2,trivial⟩,hb.trans (hb2.mono (by omega))⟩
 case done =>
  rintro D W hD ⟨⟨v,hv,hrow,_⟩,hb⟩ hK
  have hc:=hv.cell
  gi_wp2
  refine ⟨by simp,.inl ⟨_,_,rfl,run_takeDeferred hK,?_⟩⟩
  exact ⟨_,results_tmp rfl _ _ _,v,rfl,ownsRow_putObj hrow _ hK rfl,hb.trans (belowK_b (w:=w) (by omega) W D _ _ (by simp at hD;omega) hK rfl rfl)⟩
set_option maxHeartbeats 1000000 in
theorem collect_in (n:Nat) (hn:4≤n) (B:Nat) (s:ByteArray) (hs:s.size≤4398046511104) (w:World) (hB:Boxed w B 9 (.string s)) :
  CallsIn Fence.wide n Tryd.prog 40 #[.func (.func 64) #[] #[.pointer (some ⟨B,0,none⟩)]] w fun e W'=>∃ v,e=.returned v∧W'.ownsRow w.heap.size 9 1 v (linesB s).length ((linesB s).map Value.string)∧Below B w W':=by
 have hn1:1≤n:=by omega
 refine callsIn_of_wp Tryd.func40 rfl trivial ?_ rfl
 simp only [Tryd.ntmps40,List.size_toArray,List.length_cons,List.length_nil,Nat.reduceAdd,Nat.reduceSub,Array.replicate_succ,Array.replicate_zero,List.push_toArray,List.append_toArray,List.nil_append,List.cons_append]
 gi_wp2_with (refine ⟨trivial,?_⟩;gi_at_call 66;refine (appendSeq_in (n - 1) (by omega) B s hs _ hB).mono ?_;rintro e w' ⟨v,rfl,ho,hb⟩;have HO:=Aside0.mk ho;have HBb:=Aside0.mk hb;clear ho hb)
 go_ret
 exact ⟨_,rfl,HO.out,HBb.out⟩
def lines_Split.f (a0:ByteArray):Option (List ByteArray):=if a0.size≤4398046511104 then some (linesB a0) else none
theorem own_strs {w:World} {base:Nat} {v:Value} {xs:List ByteArray} (h:w.ownsRow base 9 1 v xs.length (xs.map Value.string)):Kd.R Kd.string 9 w base (fun _=>True) v xs :=
 ⟨fun _ _=>trivial,_,h,Kd.reps_scalar xs⟩
set_option maxHeartbeats 1000000 in
theorem lines_Split.calls (a0:ByteArray) (r:List ByteArray) (w:World) (h:lines_Split.f a0=some r) :
  Calls Tryd.prog 16 #[.string a0] w fun e w'=>∃ v0_:Value,e=.returned (v0_)∧Kd.R Kd.string 9 w' w.heap.size (fun _=>True) v0_ r∧Below w.heap.size w w':=by
 unfold lines_Split.f at h
 by_cases hs:a0.size≤4398046511104
 ·rw [if_pos hs] at h
  obtain rfl:=Option.some.inj h
  refine (callsIn_wide (n:=8)).1 ?_
  refine callsIn_of_wp Tryd.func16 rfl trivial ?_ rfl
  simp only [Tryd.ntmps16,List.size_toArray,List.length_cons,List.length_nil,Nat.reduceAdd,Nat.reduceSub,Array.replicate_succ,Array.replicate_zero,List.push_toArray,List.append_toArray,List.nil_append,List.cons_append]
  have hn:=Boxed.new w 9 (.string a0)
  clear h
  gi_wp2_with (first
   | (refine ⟨trivial,?_⟩;gi_at_call 39;refine (each_in _ a0 _).mono ?_;rintro e w' ⟨rfl,rfl⟩)
   | (refine ⟨trivial,?_⟩;gi_at_call 40;refine (collect_in _ (by omega) w.heap.size a0 hs _ hn).mono ?_;rintro e w' ⟨v,rfl,ho,hb⟩;have HO:=Aside0.mk ho;have HBb:=Aside0.mk hb;clear ho hb))
  go_ret
  refine ⟨_,rfl,Kd.R_lower (own_strs HO.out) (by simp),?_⟩
  exact ((Below.refl _ w).alloc (Nat.le_refl _) _).trans HBb.out
 ·rw [if_neg hs] at h;cases h
end Go.Proofs.YtamojbfmphainaaDoor.Pr
-- shrunk
/-
A text's lines, as plain functions on lists of bytes.
-/
namespace Go.Proofs.YtamojbfmphainaaDoor.Pr
open Go.RowKit Go.Proofs.YtamojbfmphainaaDoorW.PrintWords Go.Proofs.YtamojbfmphainaaDoorW.PrintLast Go.Proofs.YtamojbfmphainaaDoorW.PrintMore
def glue (cur:List UInt8):List (List UInt8)→List (List UInt8)
 | []=>[cur]
 | x :: xs=>(cur++x) :: xs
def lns:List UInt8→List (List UInt8)
 | []=>[]
 | b :: l=>if b=10 then [b] :: lns l else glue [b] (lns l)
def closedL (l:List UInt8):Bool:=decide (l=[]) || l.getLast? == some 10
theorem lns_nl (l:List UInt8):lns (10 :: l)=[10] :: lns l:=by simp [lns]
theorem lns_no {b:UInt8} (h:b≠10) (l:List UInt8):lns (b :: l)=glue [b] (lns l):=by simp [lns,h]
theorem glue_append (c:List UInt8) (x:List (List UInt8)) (y:List (List UInt8)) (h:x≠[]):glue c (x++y)=glue c x++y:=by
 cases x with
 | nil=>exact absurd rfl h
 | cons=>simp [glue]
theorem glue_ne (c:List UInt8) (x:List (List UInt8)):glue c x≠[]:=by cases x<;>simp [glue]
theorem lns_eq_nil (l:List UInt8):lns l=[] ↔ l=[]:=by
 cases l with
 | nil=>simp [lns]
 | cons b l =>
  by_cases h:b=10
  ·subst h;simp [lns_nl]
  ·simp [lns_no h,glue_ne]
theorem lns_flatten (l:List UInt8):(lns l).flatten=l:=by
 induction l with
 | nil=>rfl
 | cons b l ih =>
  by_cases h:b=10
  ·subst h;rw [lns_nl,List.flatten_cons,ih];rfl
  ·rw [lns_no h]
   cases hl:lns l with
   | nil=>rw [hl] at ih;simp at ih;simp [glue,← ih]
   | cons x xs=>rw [hl] at ih;simp [glue,← ih]
theorem closedL_cons (b c:UInt8) (l:List UInt8):closedL (b :: c :: l)=closedL (c :: l):=by simp [closedL]
theorem lns_append (a b:List UInt8) (h:closedL a=true):lns (a++b)=lns a++lns b:=by
 induction a with
 | nil=>rfl
 | cons c a ih =>
  rcases a with _|⟨d,a⟩
  ·have hc:c=10:=by simpa [closedL] using h
   subst hc;simp [lns]
  ·have h1:=ih (by rwa [closedL_cons] at h)
   by_cases hc:c=10
   ·subst hc;rw [List.cons_append,lns_nl,h1,lns_nl,List.cons_append]
   ·rw [List.cons_append,lns_no hc,h1,glue_append _ _ _ (by rw [Ne,lns_eq_nil];simp),lns_no hc]
theorem lns_ne (l:List UInt8):∀ x ∈ lns l,x≠[]:=by
 induction l with
 | nil=>simp [lns]
 | cons b l ih =>
  by_cases h:b=10
  ·subst h;rw [lns_nl];intro x hx;rcases List.mem_cons.1 hx with rfl|hx
   ·simp
   ·exact ih x hx
  ·rw [lns_no h]
   cases hl:lns l with
   | nil=>simp [glue]
   | cons y ys =>
    rw [hl] at ih
    intro x hx
    rcases List.mem_cons.1 hx with rfl|hx
    ·simp
    ·exact ih x (List.mem_cons_of_mem _ hx)
def bs (l:List UInt8):ByteArray:=⟨l.toArray⟩
theorem bs_inj {a b:List UInt8} (h:bs a=bs b):a=b:=by have:=congrArg (fun s=>s.data.toList) h;simpa [bs] using this
def cutL:List UInt8→Nat
 | []=>0
 | b :: l=>if b=10 then 1 else cutL l+1
theorem cutL_index (l:List UInt8):(Lib.indexByte l 10 = -1→cutL l=l.length)∧(Lib.indexByte l 10 ≠ -1→(cutL l:Int)=Lib.indexByte l 10+1):=by
 induction l with
 | nil=>simp [Lib.indexByte,cutL]
 | cons b l ih =>
  unfold Lib.indexByte cutL
  by_cases h:b=10
  ·subst h;simp
  ·have hb:(b == 10)=false:=by simpa using h
   rw [hb]
   simp only [Bool.false_eq_true,if_false,if_neg h]
   have:=indexByte_lt l 10
   by_cases h2:Lib.indexByte l 10 = -1
   ·have h3:=ih.1 h2
    simp [h2,h3]
   ·have h3:=ih.2 h2
    have h4:(Lib.indexByte l 10 == -1)=false:=by simpa using h2
    rw [h4]
    simp only [Bool.false_eq_true,if_false]
    exact ⟨fun h=>by omega,fun _=>by omega⟩
theorem cutAt_eq (s:ByteArray):cutAt s=cutL s.data.toList:=by
 have h:=cutL_index s.data.toList
 have h2:=indexByte_lt s.data.toList 10
 have h3:s.data.toList.length=s.size:=rfl
 unfold cutAt
 by_cases h1:Lib.indexByte s.data.toList 10 = -1
 ·rw [if_pos (by omega),h.1 h1,h3]
 ·rw [if_neg (by omega)]
  have:=h.2 h1
  omega
theorem lns_cut (l:List UInt8) (h:l≠[]):lns l=l.take (cutL l) :: lns (l.drop (cutL l)):=by
 induction l with
 | nil=>exact absurd rfl h
 | cons b l ih =>
  by_cases hb:b=10
  ·subst hb;rw [lns_nl];simp [cutL]
  ·rw [lns_no hb]
   simp only [cutL,if_neg hb,List.take_succ_cons,List.drop_succ_cons]
   by_cases hl:l=[]
   ·subst hl;rfl
   ·rw [ih hl];rfl
theorem linesB_lns (s:ByteArray):linesB s=(lns s.data.toList).map bs:=by
 generalize hn:s.size=n
 induction n using Nat.strongRecOn generalizing s with
 | _ n ih =>
  by_cases h:s.size=0
  ·rw [linesB_nil s h,ByteArray.size_eq_zero_iff.1 h];rfl
  ·have hp:=cutAt_pos s (by omega)
   have hne:s.data.toList≠[]:=fun e=>h (congrArg List.length e)
   rw [linesB_cons s h,lns_cut _ hne,List.map_cons,ih (s.extract (cutAt s) s.size).size (by rw [ByteArray.size_extract,Nat.min_self];omega) _ rfl,← cutAt_eq]
   have h3:s.data.toList.length=s.size:=rfl
   congr 1
   ·apply ByteArray.ext
    apply Array.toList_inj.1
    simp [bs,ByteArray.data_extract]
   ·congr 2
    simp [ByteArray.data_extract,List.take_of_length_le,h3]
end Go.Proofs.YtamojbfmphainaaDoor.Pr
-- shrunk
-- written by a program of this session's (a turned copy of the kit's printer); Lean checks it
namespace Go.Proofs.YtamojbfmphainaaDoor.Pr
open Go.RowKit Go.Proofs.YtamojbfmphainaaDoorW.PrintWords Go.Proofs.YtamojbfmphainaaDoorW.PrintLast Go.Proofs.YtamojbfmphainaaDoorW.PrintMore
attribute [local go_sem] max2_int min2_int max_two min_two max_three min_three max_four min_four   -- for this text's walks alone

def stringslite_HasSuffix.f (a0:ByteArray) (a1:ByteArray):Option (Bool):=if (a0.size:Int) ≥ (a1.size:Int) then (if 0≤(wrap64 ((a0.size:Int) - (a1.size:Int))) then (if (wrap64 ((a0.size:Int) - (a1.size:Int)))≤(a0.size:Int) then (some ((a0.extract ((wrap64 ((a0.size:Int) - (a1.size:Int))):Int).toNat a0.size).toList == a1.toList)) else (none)) else (none)) else (some false)
set_option maxHeartbeats 8000000 in
set_option maxRecDepth 100000 in
theorem stringslite_HasSuffix.calls (a0:ByteArray) (a1:ByteArray) (r:Bool) (w:World) (h:stringslite_HasSuffix.f a0 a1=some r) :
  Calls Tryd.prog 74 #[.string a0,.string a1] w fun e w'=>e=.returned (.bool r)∧Drawn0 w w':=by
 have H:(if (a0.size:Int) ≥ (a1.size:Int) then (if 0≤(wrap64 ((a0.size:Int) - (a1.size:Int))) then (if (wrap64 ((a0.size:Int) - (a1.size:Int)))≤(a0.size:Int) then (some ((a0.extract ((wrap64 ((a0.size:Int) - (a1.size:Int))):Int).toNat a0.size).toList == a1.toList)) else (none)) else (none)) else (some false))=some r:=h
 clear h
 by_cases c3:(a0.size:Int) ≥ (a1.size:Int)
 ·rw [if_pos c3] at H
  have c3b0:decide ((a1.size:Int)≤(a0.size:Int))=true:=decide_eq_true c3
  have c3b1:decide (a1.size≤a0.size)=true:=decide_eq_true (Int.ofNat_le.mp c3)
  clear c3
  obtain ⟨ji4,hji4⟩:∃ j_:Int,(wrap64 ((a0.size:Int) - (a1.size:Int)))=j_:=⟨_,rfl⟩
  replace H:(if 0≤(ji4) then (if (ji4)≤(a0.size:Int) then (some ((a0.extract ((ji4):Int).toNat a0.size).toList == a1.toList)) else (none)) else (none))=some r:=by first|(rw [hji4] at H;exact H)|(simp only [hji4] at H ⊢;exact H)
  have hji4w:(IntKind.i64.wrap ((a0.size:Int) - (a1.size:Int)))=ji4:=(i64_w _).trans hji4
  by_cases c5:0≤(ji4)
  ·rw [if_pos c5] at H
   have c5b0:=eq_true c5
   have c5b1:decide (0≤(ji4))=true:=decide_eq_true c5
   clear c5
   by_cases c6:(ji4)≤(a0.size:Int)
   ·rw [if_pos c6] at H
    have c6b0:=eq_true c6
    have c6b1:decide ((ji4)≤(a0.size:Int))=true:=decide_eq_true c6
    clear c6
    obtain rfl:=Option.some.inj H
    go_enter Tryd.func74,Tryd.ntmps74
    go_wp2
    go_ret
    exact ⟨by first|rfl|(simp;done)|(simp only [← hji4]<;>(first|rfl|simp))|(simp [*];done),by repeat (first|exact Drawn0.refl _|apply Drawn0.step)⟩
   ·rw [if_neg c6] at H
    exact absurd H (by simp)
  ·rw [if_neg c5] at H
   exact absurd H (by simp)
 ·rw [if_neg c3] at H
  have c3b0:decide ((a1.size:Int)≤(a0.size:Int))=false:=decide_eq_false c3
  have c3b1:decide (a1.size≤a0.size)=false:=decide_eq_false (fun h=>c3 (Int.ofNat_le.mpr h))
  clear c3
  obtain rfl:=Option.some.inj H
  go_enter Tryd.func74,Tryd.ntmps74
  go_wp2
  go_ret
  exact ⟨by first|rfl|(simp;done)|(simp [*];done),by repeat (first|exact Drawn0.refl _|apply Drawn0.step)⟩

end Go.Proofs.YtamojbfmphainaaDoor.Pr
-- shrunk
-- written by a program of this session's (a turned copy of the kit's printer); Lean checks it
namespace Go.Proofs.YtamojbfmphainaaDoor.Pr
open Go.RowKit Go.Proofs.YtamojbfmphainaaDoorW.PrintWords Go.Proofs.YtamojbfmphainaaDoorW.PrintLast Go.Proofs.YtamojbfmphainaaDoorW.PrintMore
attribute [local go_sem] max2_int min2_int max_two min_two max_three min_three max_four min_four   -- for this text's walks alone

def strings_HasSuffix.f (a0:ByteArray) (a1:ByteArray):Option (Bool):=(stringslite_HasSuffix.f a0 a1).bind fun t139=>(some t139)
set_option maxHeartbeats 8000000 in
set_option maxRecDepth 100000 in
theorem strings_HasSuffix.calls (a0:ByteArray) (a1:ByteArray) (r:Bool) (w:World) (h:strings_HasSuffix.f a0 a1=some r) :
  Calls Tryd.prog 56 #[.string a0,.string a1] w fun e w'=>e=.returned (.bool r)∧Drawn0 w w':=by
 have H:((stringslite_HasSuffix.f a0 a1).bind fun t139=>(some t139))=some r:=h
 clear h
 replace H:=Option.bind_eq_some_iff.mp H
 obtain ⟨t139,A30,H⟩:=H
 replace H:(some t139)=some r:=H
 have A3:=Aside0.mk A30
 clear A30
 obtain rfl:=Option.some.inj H
 go_enter Tryd.func56,Tryd.ntmps56
 go_wp2_with (first|((with_reducible refine gate_callee (f:=74) rfl ?_);refine goesL_ (some 7) rfl rfl Tryd.func74 (by kernel_rfl) rfl #[.string a0,.string a1] rfl (by (try simp only [List.map_toArray,List.map_cons,List.map_nil]);first|done|rfl|(simp only [List.length_drop,List.length_take];rfl)) ?_;(with_reducible refine (stringslite_HasSuffix.calls a0 a1 t139 _ A3.out).mono ?_);rintro e w' ⟨rfl,⟨nd,rfl⟩⟩;refine ⟨_,rfl,?_⟩))
 go_ret
 exact ⟨by first|rfl|(simp;done)|(simp [*];done),by repeat (first|exact Drawn0.refl _|apply Drawn0.step)⟩

end Go.Proofs.YtamojbfmphainaaDoor.Pr
-- shrunk
-- written by a program of this session's (a turned copy of the kit's printer); Lean checks it
namespace Go.Proofs.YtamojbfmphainaaDoor.Pr
open Go.RowKit Go.Proofs.YtamojbfmphainaaDoorW.PrintWords Go.Proofs.YtamojbfmphainaaDoorW.PrintLast Go.Proofs.YtamojbfmphainaaDoorW.PrintMore
attribute [local go_sem] max2_int min2_int max_two min_two max_three min_three max_four min_four   -- for this text's walks alone

def lines_Closed.f (a0:ByteArray):Option (Bool):=if a0.toList=([]:List UInt8) then (some true) else ((strings_HasSuffix.f a0 (⟨#[10]⟩:ByteArray)).bind fun t140=>(some t140))
set_option maxHeartbeats 8000000 in
set_option maxRecDepth 100000 in
theorem lines_Closed.calls (a0:ByteArray) (r:Bool) (w:World) (h:lines_Closed.f a0=some r) :
  Calls Tryd.prog 25 #[.string a0] w fun e w'=>e=.returned (.bool r)∧Drawn0 w w':=by
 have H:(if a0.toList=([]:List UInt8) then (some true) else ((strings_HasSuffix.f a0 (⟨#[10]⟩:ByteArray)).bind fun t140=>(some t140)))=some r:=h
 clear h
 by_cases c2:a0.toList=([]:List UInt8)
 ·rw [if_pos c2] at H
  have c2b0:(a0.toList == ([]:List UInt8))=true:=beq_iff_eq.mpr c2
  have c2b1:(a0.toList != ([]:List UInt8))=false:=bne_eq_false_iff_eq.mpr c2
  clear c2
  obtain rfl:=Option.some.inj H
  go_enter Tryd.func25,Tryd.ntmps25
  go_wp2
  go_ret
  exact ⟨by first|rfl|(simp;done)|(simp [*];done),by repeat (first|exact Drawn0.refl _|apply Drawn0.step)⟩
 ·rw [if_neg c2] at H
  have c2b0:(a0.toList == ([]:List UInt8))=false:=beq_eq_false_iff_ne.mpr c2
  have c2b1:(a0.toList != ([]:List UInt8))=true:=bne_iff_ne.mpr c2
  replace H:=Option.bind_eq_some_iff.mp H
  obtain ⟨t140,A30,H⟩:=H
  replace H:(some t140)=some r:=H
  have A3:=Aside0.mk A30
  clear A30
  obtain rfl:=Option.some.inj H
  go_enter Tryd.func25,Tryd.ntmps25
  go_wp2_with (first|(go_at_call 56;(with_reducible refine (strings_HasSuffix.calls a0 (⟨#[10]⟩:ByteArray) t140 _ A3.out).mono ?_);rintro e w' ⟨rfl,⟨nd,rfl⟩⟩))
  go_ret
  exact ⟨by first|rfl|(simp;done)|(simp [*];done),by repeat (first|exact Drawn0.refl _|apply Drawn0.step)⟩










end Go.Proofs.YtamojbfmphainaaDoor.Pr
-- shrunk
-- written by a program of this session's (a turned copy of the kit's printer); Lean checks it
namespace Go.Proofs.YtamojbfmphainaaDoor.Pr
open Go.RowKit Go.Proofs.YtamojbfmphainaaDoorW.PrintWords Go.Proofs.YtamojbfmphainaaDoorW.PrintLast Go.Proofs.YtamojbfmphainaaDoorW.PrintMore
attribute [local go_sem] max2_int min2_int max_two min_two max_three min_three max_four min_four   -- for this text's walks alone

end Go.Proofs.YtamojbfmphainaaDoor.Pr
-- shrunk
-- written by a program of this session's (a turned copy of the kit's printer); Lean checks it
namespace Go.Proofs.YtamojbfmphainaaDoor.Pr
open Go.RowKit Go.Proofs.YtamojbfmphainaaDoorW.PrintWords Go.Proofs.YtamojbfmphainaaDoorW.PrintLast Go.Proofs.YtamojbfmphainaaDoorW.PrintMore
attribute [local go_sem] max2_int min2_int max_two min_two max_three min_three max_four min_four   -- for this text's walks alone

end Go.Proofs.YtamojbfmphainaaDoor.Pr
-- shrunk
/-
What the printed functions of layer 3 answer, in plain Lean.
-/
namespace Go.Proofs.YtamojbfmphainaaDoor.Pr
open Go.RowKit Go.Proofs.YtamojbfmphainaaDoorW.PrintWords Go.Proofs.YtamojbfmphainaaDoorW.PrintLast Go.Proofs.YtamojbfmphainaaDoorW.PrintMore
theorem Split_some (s:ByteArray) (h:s.size≤4398046511104):lines_Split.f s=some (linesB s):=by unfold lines_Split.f;rw [if_pos h]
theorem bt_get (s:ByteArray) (i:Nat) (h:i<s.size):bt s (i:Int)=(s.data.toList[i]'h).toNat:=by
 unfold bt
 rw [dif_pos (by simpa using h)]
 rfl
theorem bt_eq (s:ByteArray) (i:Nat) (h:i<s.size) (c:UInt8):bt s (i:Int)=(c.toNat:Int) ↔ s.data.toList[i]'h=c:=by
 rw [bt_get s i h]
 constructor
 ·intro e;exact UInt8.toNat_inj.1 (by omega)
 ·intro e;rw [e]
theorem last_get (s:ByteArray) (h:0<s.size):s.data.toList.getLast?=some (s.data.toList[s.size - 1]'(by show s.size - 1<s.size;omega)):=by
 rw [List.getLast?_eq_getElem?]
 exact List.getElem?_eq_getElem (by show s.size - 1<s.size;omega)
theorem closedL_size (s:ByteArray) (h:0<s.size):closedL s.data.toList=decide (bt s ((s.size - 1:Nat):Int)=10):=by
 have hne:¬ s.data.toList=[]:=fun e=>by have:=congrArg List.length e;exact absurd (show s.size=0 from this) (by omega)
 unfold closedL
 rw [decide_eq_false hne,last_get s h,Bool.false_or]
 have:=bt_eq s (s.size - 1) (by omega) 10
 rw [Bool.eq_iff_iff,beq_iff_eq,decide_eq_true_iff,Option.some.injEq]
 exact this.symm
theorem closedL_zero (s:ByteArray) (h:s.size=0):closedL s.data.toList=true:=by
 rw [ByteArray.size_eq_zero_iff.1 h];rfl
theorem Closed_some (s:ByteArray) (h:s.size≤4611686018427387904):lines_Closed.f s=some (closedL s.data.toList):=by
 unfold lines_Closed.f
 by_cases h0:s.size=0
 ·rw [if_pos (str_nil s h0),closedL_zero s h0]
 ·have e:wrap64 ((s.size:Int) - ((⟨#[10]⟩:ByteArray).size:Int))=((s.size - 1:Nat):Int):=by
   show wrap64 ((s.size:Int) - ((1:Nat):Int))=_
   unfold wrap64;omega
  rw [if_neg (str_ne s h0)]
  unfold strings_HasSuffix.f stringslite_HasSuffix.f
  rw [e,if_pos (show (s.size:Int) ≥ ((⟨#[10]⟩:ByteArray).size:Int) from by show (s.size:Int) ≥ ((1:Nat):Int);omega),if_pos (by omega),if_pos (by omega),closedL_size s (by omega)]
  simp only [Option.bind_some]
  congr 1
  rw [Bool.eq_iff_iff,beq_iff_eq,str_iff,decide_eq_true_iff]
  have h1:s.size - 1<s.size:=by omega
  rw [show (10:Int)=((10:UInt8).toNat:Int) from rfl,bt_eq s (s.size - 1) h1 10]
  have hx:s.extract ((s.size - 1:Nat):Int).toNat s.size=bs [s.data.toList[s.size - 1]'h1]:=by
   apply ByteArray.ext
   apply Array.toList_inj.1
   have h3:s.data.toList.length=s.size:=rfl
   simp only [ByteArray.data_extract,Array.toList_extract,Int.toNat_natCast,bs,List.extract_eq_take_drop]
   rw [List.drop_eq_getElem_cons (by omega),show s.size - (s.size - 1)=1 by omega]
   simp
  rw [hx]
  constructor
  ·intro hh
   have:=bs_inj (a:=[_]) (b:=[10]) hh
   simpa using this
  ·intro hh;rw [hh];rfl
end Go.Proofs.YtamojbfmphainaaDoor.Pr
-- shrunk
-- written by a program of this session's (a turned copy of the kit's printer); Lean checks it
namespace Go.Proofs.YtamojbfmphainaaDoor.Pr
open Go.RowKit Go.Proofs.YtamojbfmphainaaDoorW.PrintWords Go.Proofs.YtamojbfmphainaaDoorW.PrintLast Go.Proofs.YtamojbfmphainaaDoorW.PrintMore
attribute [local go_sem] max2_int min2_int max_two min_two max_three min_three max_four min_four   -- for this text's walks alone

def unified_first.f (a0:Int) (a1:Int):Option (Int):=if a1 > 0 then (some (wrap64 (a0+1))) else (some a0)
set_option maxHeartbeats 8000000 in
set_option maxRecDepth 100000 in
theorem unified_first.calls (a0:Int) (a1:Int) (r:Int) (w:World) (h:unified_first.f a0 a1=some r) :
  Calls Tryd.prog 53 #[.int .i64 a0,.int .i64 a1] w fun e w'=>e=.returned (.int .i64 r)∧Drawn0 w w':=by
 have H:(if a1 > 0 then (some (wrap64 (a0+1))) else (some a0))=some r:=h
 clear h
 by_cases c3:a1 > 0
 ·rw [if_pos c3] at H
  have c3b0:decide (0<a1)=true:=decide_eq_true c3
  clear c3
  obtain rfl:=Option.some.inj H
  go_enter Tryd.func53,Tryd.ntmps53
  go_wp2
  go_ret
  exact ⟨by first|rfl|(simp;done)|(simp [*];done),by repeat (first|exact Drawn0.refl _|apply Drawn0.step)⟩
 ·rw [if_neg c3] at H
  have c3b0:decide (0<a1)=false:=decide_eq_false c3
  clear c3
  obtain rfl:=Option.some.inj H
  go_enter Tryd.func53,Tryd.ntmps53
  go_wp2
  go_ret
  exact ⟨by first|rfl|(simp;done)|(simp [*];done),by repeat (first|exact Drawn0.refl _|apply Drawn0.step)⟩

end Go.Proofs.YtamojbfmphainaaDoor.Pr
-- shrunk
/-
unified's numbers: printed (from), and read (number, side).
-/
namespace Go.Proofs.YtamojbfmphainaaDoor.Pr
open Go.RowKit Go.Proofs.YtamojbfmphainaaDoorW.PrintWords Go.Proofs.YtamojbfmphainaaDoorW.PrintLast Go.Proofs.YtamojbfmphainaaDoorW.PrintMore
def itoaB (n:Int):ByteArray:=⟨(Lib.itoa n).toArray⟩
theorem itoaB_size (n:Int) (h0:-9223372036854775808≤n) (h1:n≤9223372036854775807):(itoaB n).size≤21:=by
 have:=Lib.itoa_length_le n h0 h1
 show (Lib.itoa n).toArray.size≤21
 simpa using this
theorem itoa_calls (n:Int) (h0:-9223372036854775808≤n) (h1:n≤9223372036854775807) (w:World) (hL:LaidU w) :
  Calls Tryd.prog 55 #[.int .i64 n] w fun e w'=>e=.returned (.string (itoaB n))∧Below w.heap.size w w' :=
 (Tryd.strconv_Itoa n h0 h1 w hL.tab).mono fun e w' h=>⟨h.1,by obtain ⟨k,os,rfl⟩:=h.2;exact Lib.below_grow _ w (Nat.le_refl _) k os⟩
def numB (s:ByteArray):Option Int:=match Lib.atoiAll s.data.toList with
 | .ok v=>if 0≤v∧v<2147483648∧itoaB v=s then some v else none
 | _=>none
def firstI (at_ many:Int):Int:=if many > 0 then at_+1 else at_
def fromB (at_ many:Int):ByteArray:=itoaB (firstI at_ many)++(⟨#[44]⟩:ByteArray)++itoaB many
set_option maxRecDepth 100000 in
set_option maxHeartbeats 4000000 in
theorem from_calls (at_ many:Int) (h0:0≤at_) (h1:at_≤4611686018427387904) (h2:0≤many) (h3:many≤4611686018427387904) (w:World) (hL:LaidU w) :
  Calls Tryd.prog 24 #[.int .i64 at_,.int .i64 many] w fun e w'=>e=.returned (.string (fromB at_ many))∧Below w.heap.size w w':=by
 have HL:=Aside0.mk hL
 clear hL
 obtain ⟨f,hf⟩:∃ f,f=firstI at_ many:=⟨_,rfl⟩
 have hF:unified_first.f at_ many=some f:=by
  rw [hf,unified_first.f,firstI]
  split
  ·rw [show wrap64 (at_+1)=at_+1 by unfold wrap64;omega]
  ·rfl
 have hf0:0≤f:=by rw [hf,firstI];split<;>omega
 have hf1:f≤4611686018427387905:=by rw [hf,firstI];split<;>omega
 obtain ⟨x,hx⟩:∃ x,x=itoaB f:=⟨_,rfl⟩
 obtain ⟨y,hy⟩:∃ y,y=itoaB many:=⟨_,rfl⟩
 have hxs:x.size≤21:=by rw [hx];exact itoaB_size _ (by omega) (by omega)
 have hys:y.size≤21:=by rw [hy];exact itoaB_size _ (by omega) (by omega)
 have HR:=Aside0.mk (show fromB at_ many=x++(⟨#[44]⟩:ByteArray)++y by rw [fromB,← hf,← hx,← hy])
 have C1:=Aside0.mk (fun W hW=>by have h_:=itoa_calls f (by omega) (by omega) W hW;rw [← hx] at h_;exact h_)
 have C2:=Aside0.mk (fun W hW=>by have h_:=itoa_calls many (by omega) (by omega) W hW;rw [← hy] at h_;exact h_)
 have CF:=Aside0.mk hF
 have n1:(9223372036854775807<x.size+1)=False:=eq_false (by omega)
 have n2:(9223372036854775807<x.size+1+y.size)=False:=eq_false (by omega)
 have n3:(9223372036854775807<(x++(⟨#[44]⟩:ByteArray)).size+y.size)=False:=eq_false (by rw [ByteArray.size_append];show ¬ 9223372036854775807<x.size+1+y.size;omega)
 clear hF hf hx hy hf0 hf1 hxs hys h0 h1 h2 h3
 go_enter Tryd.func24,Tryd.ntmps24
 go_wp2_with (first
  | (go_at_call 53;(with_reducible refine (unified_first.calls at_ many f _ CF.out).mono ?_);rintro e w' ⟨rfl,⟨nd,rfl⟩⟩;have HL1:=Aside0.mk (HL.out.below (pw_below_drewN (Below.refl _ _) nd)))
  | (go_at_call 55;(with_reducible refine (C1.out _ HL1.out).mono ?_);rintro e w1 ⟨rfl,hb⟩;have HL2:=Aside0.mk (HL1.out.below hb);have HB1:=Aside0.mk hb;clear hb)
  | (go_at_call 55;(with_reducible refine (C2.out _ HL2.out).mono ?_);rintro e w2 ⟨rfl,hb⟩;have HB2:=Aside0.mk hb;clear hb))
 go_ret
 exact ⟨by rw [HR.out];first|done|rfl,below_then (below_then (pw_below_drewN (Below.refl _ _) _) (Nat.le_refl _) HB1.out) HB1.out.size HB2.out⟩
theorem atoiAll_low {l:List UInt8} {v:Int} (h:Lib.atoiAll l=.ok v):-9223372036854775808≤v∧v≤9223372036854775807:=by
 unfold Lib.atoiAll at h
 split at h
 ·cases h
 ·dsimp only at h
  split at h
  ·cases h
  ·cases h
  ·split at h
   ·cases h
   ·split at h
    ·cases h
    ·injection h with h
     split at h<;>omega
def NumEnd (s:ByteArray) (w:World) (e:Ending) (w':World):Prop:=∃ n,e=.returned (.tuple #[.int .i64 n,.bool (numB s).isSome])∧(∀ v,numB s=some v→n=v)∧Below w.heap.size w w'
theorem atoi_ok (s:ByteArray) (hs:s.size≤281474976710656) (v:Int) (hA:Lib.atoiAll s.data.toList=.ok v) (w:World) :
  Calls Tryd.prog 96 #[.string s] w fun e w'=>e=.returned (.tuple #[.int .i64 v,.nilIface])∧Below w.heap.size w w' :=
 (Tryd.strconv_Atoi_ok s (by omega) v hA w).mono fun e w' h=>⟨h.1,by
  rcases h.2 with rfl|⟨t,rfl⟩
  ·exact Below.refl _ _
  ·exact Lib.bytesWorld_below _ _ _⟩
def AtoiNo (w:World) (e:Ending) (w':World):Prop:=∃ n a,e=.returned (.tuple #[.int .i64 n,.iface 129 (.pointer (some a))])∧Below w.heap.size w w'
theorem atoi_no (s:ByteArray) (hs:s.size≤281474976710656) (hA:∀ v,Lib.atoiAll s.data.toList≠.ok v) (w:World) (hL:LaidU w):Calls Tryd.prog 96 #[.string s] w (AtoiNo w):=by
 obtain ⟨t1,p1,h1⟩:=hL.syn
 obtain ⟨t2,p2,h2⟩:=hL.rng
 rcases h:Lib.atoiAll s.data.toList with v|_|_
 ·exact absurd h (hA v)
 ·exact (Tryd.strconv_Atoi_syntax_var s hs h t1 p1 w h1).mono fun e w' ⟨N,he,_,_,hb⟩=>⟨_,_,he,hb⟩
 ·exact (Tryd.strconv_Atoi_range_var s hs h t2 p2 w h2).mono fun e w' ⟨N,he,_,_,hb⟩=>⟨_,_,he,hb⟩
set_option maxRecDepth 100000 in
set_option maxHeartbeats 4000000 in
theorem number_ok (s:ByteArray) (hs:s.size≤281474976710656) (v:Int) (hA:Lib.atoiAll s.data.toList=.ok v) (w:World) (hL:LaidU w):Calls Tryd.prog 86 #[.string s] w (NumEnd s w):=by
 have HL:=Aside0.mk hL
 have hb:=atoiAll_low hA
 have CA:=Aside0.mk (atoi_ok s hs v hA w)
 have HA:=Aside0.mk hA
 obtain ⟨y,hy⟩:∃ y,y=itoaB v:=⟨_,rfl⟩
 have C1:=Aside0.mk (fun W hW=>by have h_:=itoa_calls v hb.1 hb.2 W hW;rw [← hy] at h_;exact h_)
 have HY:=Aside0.mk hy
 clear hL hs hA hy hb
 by_cases c1:v<2147483648
 ·have f1:decide (v<2147483648)=true:=decide_eq_true c1
  by_cases c2:y=s
  ·have f2:(y.toList == s.toList)=true:=(Lib.bytes_beq_iff _ _).2 c2
   by_cases c3:0≤v
   ·have HN:=Aside0.mk (show numB s=some v by rw [numB,HA.out];exact if_pos ⟨c3,c1,by rw [← HY.out];exact c2⟩)
    have f3:decide (0≤v)=true:=decide_eq_true c3
    clear c1 c2 c3
    go_enter Tryd.func86,Tryd.ntmps86
    go_wp2_with (first
   | (go_at_call 96;(with_reducible refine CA.out.mono ?_);rintro e w1 ⟨rfl,hb⟩;have HL1:=Aside0.mk (HL.out.below hb);have HB1:=Aside0.mk hb;clear hb)
   | (go_at_call 55;(with_reducible refine (C1.out _ HL1.out).mono ?_);rintro e w2 ⟨rfl,hb⟩;have HB2:=Aside0.mk hb;clear hb))
    go_ret2
    exact ⟨v,by rw [HN.out];rfl,fun u h=>by rw [HN.out] at h;exact Option.some.inj h,below_then HB1.out HB1.out.size HB2.out⟩
   ·have HN:=Aside0.mk (show numB s=none by rw [numB,HA.out];exact if_neg fun h=>c3 h.1)
    have f3:decide (0≤v)=false:=decide_eq_false c3
    clear c1 c2 c3
    go_enter Tryd.func86,Tryd.ntmps86
    go_wp2_with (first
   | (go_at_call 96;(with_reducible refine CA.out.mono ?_);rintro e w1 ⟨rfl,hb⟩;have HL1:=Aside0.mk (HL.out.below hb);have HB1:=Aside0.mk hb;clear hb)
   | (go_at_call 55;(with_reducible refine (C1.out _ HL1.out).mono ?_);rintro e w2 ⟨rfl,hb⟩;have HB2:=Aside0.mk hb;clear hb))
    go_ret2
    exact ⟨v,by rw [HN.out];rfl,(fun u h=>by rw [HN.out] at h;cases h),below_then HB1.out HB1.out.size HB2.out⟩
  ·have f2:(y.toList == s.toList)=false:=(Lib.bytes_beq_false_iff _ _).2 c2
   have HN:=Aside0.mk (show numB s=none by rw [numB,HA.out];exact if_neg fun h=>c2 (by rw [HY.out];exact h.2.2))
   clear c1 c2
   go_enter Tryd.func86,Tryd.ntmps86
   go_wp2_with (first
   | (go_at_call 96;(with_reducible refine CA.out.mono ?_);rintro e w1 ⟨rfl,hb⟩;have HL1:=Aside0.mk (HL.out.below hb);have HB1:=Aside0.mk hb;clear hb)
   | (go_at_call 55;(with_reducible refine (C1.out _ HL1.out).mono ?_);rintro e w2 ⟨rfl,hb⟩;have HB2:=Aside0.mk hb;clear hb))
   go_ret2
   exact ⟨v,by rw [HN.out];rfl,(fun u h=>by rw [HN.out] at h;cases h),below_then HB1.out HB1.out.size HB2.out⟩
 ·have f1:decide (v<2147483648)=false:=decide_eq_false c1
  have HN:=Aside0.mk (show numB s=none by rw [numB,HA.out];exact if_neg fun h=>c1 h.2.1)
  clear c1
  go_enter Tryd.func86,Tryd.ntmps86
  go_wp2_with (first
   | (go_at_call 96;(with_reducible refine CA.out.mono ?_);rintro e w1 ⟨rfl,hb⟩;have HL1:=Aside0.mk (HL.out.below hb);have HB1:=Aside0.mk hb;clear hb)
   | (go_at_call 55;(with_reducible refine (C1.out _ HL1.out).mono ?_);rintro e w2 ⟨rfl,hb⟩;have HB2:=Aside0.mk hb;clear hb))
  go_ret2
  exact ⟨v,by rw [HN.out];rfl,(fun u h=>by rw [HN.out] at h;cases h),HB1.out⟩
set_option maxRecDepth 100000 in
set_option maxHeartbeats 4000000 in
theorem number_no (s:ByteArray) (hs:s.size≤281474976710656) (hA:∀ v,Lib.atoiAll s.data.toList≠.ok v) (w:World) (hL:LaidU w):Calls Tryd.prog 86 #[.string s] w (NumEnd s w):=by
 have HN:=Aside0.mk (show numB s=none by
  rw [numB]
  rcases h:Lib.atoiAll s.data.toList with v|_|_
  ·exact absurd h (hA v)
  ·rfl
  ·rfl)
 have CA:=Aside0.mk (atoi_no s hs hA w hL)
 clear hL hs hA
 go_enter Tryd.func86,Tryd.ntmps86
 go_wp2_with (go_at_call 96;(with_reducible refine CA.out.mono ?_);rintro e w1 ⟨n,a,rfl,hb⟩;have HB1:=Aside0.mk hb;clear hb)
 go_ret2
 exact ⟨n,by rw [HN.out];rfl,(fun u h=>by rw [HN.out] at h;cases h),HB1.out⟩
theorem number_calls (s:ByteArray) (hs:s.size≤281474976710656) (w:World) (hL:LaidU w):Calls Tryd.prog 86 #[.string s] w (NumEnd s w):=by
 by_cases h:∃ v,Lib.atoiAll s.data.toList=.ok v
 ·obtain ⟨v,hv⟩:=h
  exact number_ok s hs v hv w hL
 ·exact number_no s hs (fun v hv=>h ⟨v,hv⟩) w hL
end Go.Proofs.YtamojbfmphainaaDoor.Pr
-- shrunk
/-
unified's side of a head, read.
-/
namespace Go.Proofs.YtamojbfmphainaaDoor.Pr
open Go.RowKit Go.Proofs.YtamojbfmphainaaDoorW.PrintWords Go.Proofs.YtamojbfmphainaaDoorW.PrintLast Go.Proofs.YtamojbfmphainaaDoorW.PrintMore
theorem number_some (s:ByteArray) (hs:s.size≤281474976710656) (v:Int) (h:numB s=some v) (w:World) (hL:LaidU w) :
  Calls Tryd.prog 86 #[.string s] w fun e w'=>e=.returned (.tuple #[.int .i64 v,.bool true])∧Below w.heap.size w w' :=
 (number_calls s hs w hL).mono fun e w' ⟨n,he,hn,hb⟩=>⟨by rw [he,hn v h,h];rfl,hb⟩
def NoNum (w:World) (e:Ending) (w':World):Prop:=∃ n,e=.returned (.tuple #[.int .i64 n,.bool false])∧Below w.heap.size w w'
theorem number_none (s:ByteArray) (hs:s.size≤281474976710656) (h:numB s=none) (w:World) (hL:LaidU w) :
  Calls Tryd.prog 86 #[.string s] w (NoNum w) :=
 (number_calls s hs w hL).mono fun e w' ⟨n,he,hn,hb⟩=>⟨n,by rw [he,h];rfl,hb⟩
theorem numB_range {s:ByteArray} {v:Int} (h:numB s=some v):0≤v∧v<2147483648∧itoaB v=s:=by
 unfold numB at h
 split at h
 ·split at h
  ·rename_i h1
   obtain rfl:=Option.some.inj h
   exact h1
  ·cases h
 ·cases h
def cutA (s:ByteArray) (sep:List UInt8):ByteArray:=⟨(Lib.cut s.data.toList sep).1.toArray⟩
def cutC (s:ByteArray) (sep:List UInt8):ByteArray:=⟨(Lib.cut s.data.toList sep).2.1.toArray⟩
def cutIs (s:ByteArray) (sep:List UInt8):Bool:=(Lib.cut s.data.toList sep).2.2
theorem cutA_size (s:ByteArray) (sep:List UInt8):(cutA s sep).size≤s.size:=by
 show (Lib.cut s.data.toList sep).1.toArray.size≤s.data.size
 rw [List.size_toArray,← Array.length_toList]
 unfold Lib.cut
 split
 ·show (List.take _ _).length≤_
  rw [List.length_take];exact Nat.min_le_right _ _
 ·exact Nat.le_refl _
theorem cutC_size (s:ByteArray) (sep:List UInt8):(cutC s sep).size≤s.size:=by
 show (Lib.cut s.data.toList sep).2.1.toArray.size≤s.data.size
 rw [List.size_toArray,← Array.length_toList]
 unfold Lib.cut
 split
 ·show (List.drop _ _).length≤_
  rw [List.length_drop];omega
 ·exact Nat.zero_le _
theorem cut_calls (s sep:ByteArray) (hs:s.size≤4000000000) (w:World) (hL:LaidU w) :
  Calls Tryd.prog 77 #[.string s,.string sep] w fun e w'=>e=.returned (.tuple #[.string (cutA s sep.data.toList),.string (cutC s sep.data.toList),.bool (cutIs s sep.data.toList)])∧Below w.heap.size w w':=by
 obtain ⟨m,hm⟩:=hL.mx
 exact (Tryd.strings_Cut s sep m w (by omega) hm).mono fun e w' h=>⟨h.1,by obtain ⟨n,rfl⟩:=h.2;exact pw_below_drewN (Below.refl _ _) n⟩
def sideB (s:ByteArray):Option (Int × Int):=if cutIs s [44]=true then
  match numB (cutA s [44]),numB (cutC s [44]) with
  | some x,some y=>if y > 0∧x=0 then none else some (if y > 0 then x - 1 else x,y)
  | _,_=>none
 else none
def SideEnd (s:ByteArray) (w:World) (e:Ending) (w':World):Prop:=∃ a b,e=.returned (.tuple #[.int .i64 a,.int .i64 b,.bool (sideB s).isSome])∧(∀ p,sideB s=some p→p=(a,b))∧Below w.heap.size w w'
set_option maxRecDepth 100000 in
set_option maxHeartbeats 8000000 in
theorem side_calls (s:ByteArray) (hs:s.size≤4000000000) (w:World) (hL:LaidU w):Calls Tryd.prog 78 #[.string s] w (SideEnd s w):=by
 have HL:=Aside0.mk hL
 have CC:=Aside0.mk (cut_calls s ⟨#[44]⟩ hs w hL)
 obtain ⟨x,hx⟩:∃ x,x=cutA s [44]:=⟨_,rfl⟩
 obtain ⟨y,hy⟩:∃ y,y=cutC s [44]:=⟨_,rfl⟩
 obtain ⟨z,hz⟩:∃ z,z=cutIs s [44]:=⟨_,rfl⟩
 have hxs:x.size≤281474976710656:=by have:=cutA_size s [44];rw [← hx] at this;omega
 have hys:y.size≤281474976710656:=by have:=cutC_size s [44];rw [← hy] at this;omega
 have CC2:=Aside0.mk (show Calls Tryd.prog 77 #[.string s,.string ⟨#[44]⟩] w fun e w'=>e=.returned (.tuple #[.string x,.string y,.bool z])∧Below w.heap.size w w' by rw [hx,hy,hz];exact CC.out)
 have HD:=Aside0.mk (show sideB s=if z=true then (match numB x,numB y with|some x,some y=>if y > 0∧x=0 then none else some (if y > 0 then x - 1 else x,y)|_,_=>none) else none by rw [sideB,← hx,← hy,← hz])
 clear CC hx hy hz hs hL
 rcases hnx:numB x with _|p
 ·have C1:=Aside0.mk (number_none x hxs hnx)
  rcases hny:numB y with _|q
  ·have C2:=Aside0.mk (number_none y hys hny)
   have HN:=Aside0.mk (show sideB s=none by rw [HD.out,hnx];split<;>rfl)
   clear hnx hny hxs hys HD
   cases z
   all_goals
    as_aux_lemma =>
    go_enter Tryd.func78,Tryd.ntmps78
    go_wp2_with (first
     | (go_at_call 77;(with_reducible refine CC2.out.mono ?_);rintro e w1 ⟨rfl,hb⟩;have HL1:=Aside0.mk (HL.out.below hb);have HB1:=Aside0.mk hb;clear hb)
     | (go_at_call 86;(with_reducible refine (C1.out _ HL1.out).mono ?_);rintro e w2 ⟨nw2,rfl,hb⟩;have HL2:=Aside0.mk (HL1.out.below hb);have HB2:=Aside0.mk (below_step HB1.out hb);clear hb)
     | (go_at_call 86;(with_reducible refine (C2.out _ HL2.out).mono ?_);rintro e w3 ⟨nw3,rfl,hb⟩;have HB3:=Aside0.mk (below_step HB2.out hb);clear hb))
    go_ret3
    exact ⟨_,_,by rw [HN.out];rfl,(fun u h=>by rw [HN.out] at h;cases h),HB3.out⟩
  ·have C2:=Aside0.mk (number_some y hys q hny)
   have HN:=Aside0.mk (show sideB s=none by rw [HD.out,hnx];split<;>rfl)
   clear hnx hny hxs hys HD
   cases z
   all_goals
    as_aux_lemma =>
    go_enter Tryd.func78,Tryd.ntmps78
    go_wp2_with (first
     | (go_at_call 77;(with_reducible refine CC2.out.mono ?_);rintro e w1 ⟨rfl,hb⟩;have HL1:=Aside0.mk (HL.out.below hb);have HB1:=Aside0.mk hb;clear hb)
     | (go_at_call 86;(with_reducible refine (C1.out _ HL1.out).mono ?_);rintro e w2 ⟨nw2,rfl,hb⟩;have HL2:=Aside0.mk (HL1.out.below hb);have HB2:=Aside0.mk (below_step HB1.out hb);clear hb)
     | (go_at_call 86;(with_reducible refine (C2.out _ HL2.out).mono ?_);rintro e w3 ⟨rfl,hb⟩;have HB3:=Aside0.mk (below_step HB2.out hb);clear hb))
    go_ret3
    exact ⟨_,_,by rw [HN.out];rfl,(fun u h=>by rw [HN.out] at h;cases h),HB3.out⟩
 ·have C1:=Aside0.mk (number_some x hxs p hnx)
  rcases hny:numB y with _|q
  ·have C2:=Aside0.mk (number_none y hys hny)
   have HN:=Aside0.mk (show sideB s=none by rw [HD.out,hnx,hny];split<;>rfl)
   clear hnx hny hxs hys HD
   cases z
   all_goals
    as_aux_lemma =>
    go_enter Tryd.func78,Tryd.ntmps78
    go_wp2_with (first
     | (go_at_call 77;(with_reducible refine CC2.out.mono ?_);rintro e w1 ⟨rfl,hb⟩;have HL1:=Aside0.mk (HL.out.below hb);have HB1:=Aside0.mk hb;clear hb)
     | (go_at_call 86;(with_reducible refine (C1.out _ HL1.out).mono ?_);rintro e w2 ⟨rfl,hb⟩;have HL2:=Aside0.mk (HL1.out.below hb);have HB2:=Aside0.mk (below_step HB1.out hb);clear hb)
     | (go_at_call 86;(with_reducible refine (C2.out _ HL2.out).mono ?_);rintro e w3 ⟨nw3,rfl,hb⟩;have HB3:=Aside0.mk (below_step HB2.out hb);clear hb))
    go_ret3
    exact ⟨_,_,by rw [HN.out];rfl,(fun u h=>by rw [HN.out] at h;cases h),HB3.out⟩
  ·have C2:=Aside0.mk (number_some y hys q hny)
   have hp:=numB_range hnx
   have hq:=numB_range hny
   have hp0:=hp.1
   have hp1:=hp.2.1
   have hq0:=hq.1
   have hq1:=hq.2.1
   cases z with
   | false =>
    as_aux_lemma =>
    have HN:=Aside0.mk (show sideB s=none by rw [HD.out];rfl)
    clear hnx hny hxs hys HD hp hq
    go_enter Tryd.func78,Tryd.ntmps78
    go_wp2_with (first
     | (go_at_call 77;(with_reducible refine CC2.out.mono ?_);rintro e w1 ⟨rfl,hb⟩;have HL1:=Aside0.mk (HL.out.below hb);have HB1:=Aside0.mk hb;clear hb)
     | (go_at_call 86;(with_reducible refine (C1.out _ HL1.out).mono ?_);rintro e w2 ⟨rfl,hb⟩;have HL2:=Aside0.mk (HL1.out.below hb);have HB2:=Aside0.mk (below_step HB1.out hb);clear hb)
     | (go_at_call 86;(with_reducible refine (C2.out _ HL2.out).mono ?_);rintro e w3 ⟨rfl,hb⟩;have HB3:=Aside0.mk (below_step HB2.out hb);clear hb))
    go_ret3
    exact ⟨_,_,by rw [HN.out];rfl,(fun u h=>by rw [HN.out] at h;cases h),HB3.out⟩
   | true =>
    by_cases c1:q > 0
    ·have f1:decide (0<q)=true:=decide_eq_true c1
     by_cases c2:p=0
     ·as_aux_lemma =>
      have f2:(p == 0)=true:=beq_iff_eq.2 c2
      have HN:=Aside0.mk (show sideB s=none by rw [HD.out,hnx,hny];show (if q > 0∧p=0 then none else _)=none;rw [if_pos ⟨c1,c2⟩])
      clear hnx hny hxs hys HD hp hq c1 c2
      go_enter Tryd.func78,Tryd.ntmps78
      go_wp2_with (first
       | (go_at_call 77;(with_reducible refine CC2.out.mono ?_);rintro e w1 ⟨rfl,hb⟩;have HL1:=Aside0.mk (HL.out.below hb);have HB1:=Aside0.mk hb;clear hb)
       | (go_at_call 86;(with_reducible refine (C1.out _ HL1.out).mono ?_);rintro e w2 ⟨rfl,hb⟩;have HL2:=Aside0.mk (HL1.out.below hb);have HB2:=Aside0.mk (below_step HB1.out hb);clear hb)
       | (go_at_call 86;(with_reducible refine (C2.out _ HL2.out).mono ?_);rintro e w3 ⟨rfl,hb⟩;have HB3:=Aside0.mk (below_step HB2.out hb);clear hb))
      go_ret3
      exact ⟨_,_,by rw [HN.out];rfl,(fun u h=>by rw [HN.out] at h;cases h),HB3.out⟩
     ·as_aux_lemma =>
      have f2:(p == 0)=false:=beq_eq_false_iff_ne.2 c2
      have HN:=Aside0.mk (show sideB s=some (p - 1,q) by rw [HD.out,hnx,hny];show (if q > 0∧p=0 then none else some (if q > 0 then p - 1 else p,q))=_;rw [if_neg (fun h=>c2 h.2),if_pos c1])
      clear hnx hny hxs hys HD hp hq c1 c2
      go_enter Tryd.func78,Tryd.ntmps78
      go_wp2_with (first
       | (go_at_call 77;(with_reducible refine CC2.out.mono ?_);rintro e w1 ⟨rfl,hb⟩;have HL1:=Aside0.mk (HL.out.below hb);have HB1:=Aside0.mk hb;clear hb)
       | (go_at_call 86;(with_reducible refine (C1.out _ HL1.out).mono ?_);rintro e w2 ⟨rfl,hb⟩;have HL2:=Aside0.mk (HL1.out.below hb);have HB2:=Aside0.mk (below_step HB1.out hb);clear hb)
       | (go_at_call 86;(with_reducible refine (C2.out _ HL2.out).mono ?_);rintro e w3 ⟨rfl,hb⟩;have HB3:=Aside0.mk (below_step HB2.out hb);clear hb))
      go_ret3
      exact ⟨_,_,by rw [HN.out];rfl,(fun u h=>by rw [HN.out] at h;exact (Option.some.inj h).symm),HB3.out⟩
    ·as_aux_lemma =>
     have f1:decide (0<q)=false:=decide_eq_false c1
     have HN:=Aside0.mk (show sideB s=some (p,q) by rw [HD.out,hnx,hny];show (if q > 0∧p=0 then none else some (if q > 0 then p - 1 else p,q))=_;rw [if_neg (fun h=>c1 h.1),if_neg c1])
     clear hnx hny hxs hys HD hp hq c1
     go_enter Tryd.func78,Tryd.ntmps78
     go_wp2_with (first
      | (go_at_call 77;(with_reducible refine CC2.out.mono ?_);rintro e w1 ⟨rfl,hb⟩;have HL1:=Aside0.mk (HL.out.below hb);have HB1:=Aside0.mk hb;clear hb)
      | (go_at_call 86;(with_reducible refine (C1.out _ HL1.out).mono ?_);rintro e w2 ⟨rfl,hb⟩;have HL2:=Aside0.mk (HL1.out.below hb);have HB2:=Aside0.mk (below_step HB1.out hb);clear hb)
      | (go_at_call 86;(with_reducible refine (C2.out _ HL2.out).mono ?_);rintro e w3 ⟨rfl,hb⟩;have HB3:=Aside0.mk (below_step HB2.out hb);clear hb))
     go_ret3
     exact ⟨_,_,by rw [HN.out];rfl,(fun u h=>by rw [HN.out] at h;exact (Option.some.inj h).symm),HB3.out⟩
end Go.Proofs.YtamojbfmphainaaDoor.Pr
-- shrunk
/-
unified's reader: the line that says that the one ahead of it has no end.
-/
namespace Go.Proofs.YtamojbfmphainaaDoor.Pr
open Go.RowKit Go.Proofs.YtamojbfmphainaaDoorW.PrintWords Go.Proofs.YtamojbfmphainaaDoorW.PrintLast Go.Proofs.YtamojbfmphainaaDoorW.PrintMore
def openB:ByteArray:=⟨#[92,32,78,111,32,110,101,119,108,105,110,101,32,97,116,32,101,110,100,32,111,102,32,102,105,108,101,10]⟩
theorem open_toList:openB.toList=[92,32,78,111,32,110,101,119,108,105,110,101,32,97,116,32,101,110,100,32,111,102,32,102,105,108,101,10]:=by rw [openB,Lib.toList_data]
theorem open_ne {s:ByteArray} (h:s≠openB):¬ s.toList=[92,32,78,111,32,110,101,119,108,105,110,101,32,97,116,32,101,110,100,32,111,102,32,102,105,108,101,10]:=by
 rw [← open_toList,str_iff]
 exact h
def chopB (s:ByteArray):ByteArray:=⟨(Lib.trimSuffix s.data.toList [10]).toArray⟩
theorem trim_calls (s:ByteArray) (w:World) (hs:s.size≤9223372036854775807):Calls Tryd.prog 61 #[.string s,.string ⟨#[10]⟩] w fun e w'=>e=.returned (.string (chopB s))∧w'=w :=
 Tryd.strings_TrimSuffix s ⟨#[10]⟩ w hs
theorem RBox.inner {w:World} {g gl n cl:Nat} {an bn:Int} {bare:Bool} {fn:Nat} {l l':List S41} {W w1:World} (h:RBox w g (.slice (some ⟨gl,0,none⟩) n cl) an bn bare fn l W) {row:Option Nat} (hg:W.grownBy w1 row)
  (hty:∀ k,row=some k→∃ cs,W.heap[k]?=some (.cells cs 9 (0,0))) (hnew:∀ k,row=some k→w.heap.size≤k) (hS:Kd.S k41 41 w1 w.heap.size (fun _=>True) (.slice (some ⟨gl,0,none⟩) n cl) l') :
  RBox w g (.slice (some ⟨gl,0,none⟩) n cl) an bn bare fn l' w1 :=
 ⟨blk_grown h.box hg (fun he=>by obtain ⟨cs,hc⟩:=hty g he.symm;exact blk_ne h.box hc (by decide) rfl),hS,keep_grown h.bel hg hnew⟩
set_option maxRecDepth 100000 in
set_option maxHeartbeats 4000000 in
theorem cut_no (w:World) (g:Nat) (v:Value) (an bn:Int) (bare:Bool) (fn:Nat) (l:List S41) (s:ByteArray) (W:World) (h:RBox w g v an bn bare fn l W) (hs:s≠openB∨bare=true) :
  Calls Tryd.prog 32 #[.pointer (some ⟨g,0,none⟩),.string s] W fun e w'=>e=.returned (.bool false)∧w'=W:=by
 have H:=Aside0.mk h
 have hz3:W.cell? ⟨g,3,none⟩=some (.bool bare):=(blk_cell h.box 3).trans rfl
 clear h
 by_cases c:s=openB
 ·obtain rfl:bare=true:=hs.resolve_left (fun e=>e c)
  subst c
  clear hs
  unfold openB
  go_enter Tryd.func32,Tryd.ntmps32
  go_wp2
  go_ret
  exact ⟨rfl,rfl⟩
 ·have q1:(s.toList=[92,32,78,111,32,110,101,119,108,105,110,101,32,97,116,32,101,110,100,32,111,102,32,102,105,108,101,10])=False:=eq_false (open_ne c)
  clear hs c
  go_enter Tryd.func32,Tryd.ntmps32
  go_wp2
  go_ret
  exact ⟨rfl,rfl⟩
def gcut_4.T4:Bool × List (List Nat × List Nat):=(true,[([],[]),([0],[0]),([1],[1]),([2],[2]),([],[]),([4],[4]),([5],[5]),([6],[6]),([7],[7]),([8],[8]),([],[]),([10],[10]),([11],[11]),([12],[12]),([],[]),([14],[14]),([15],[15]),([16],[16]),([17],[17]),([18],[18]),([13,19],[13,19]),([20],[20]),([21],[21]),([3,9,0,1,2,3,4,5,6,7,8,9,10,11,12,13,14,15,16,17,18,19,20,21,22],[3,9]),([23,22,22,0,1,2,3,4,5,6,7,8,9,10,11,12,13,14,15,16,17,18,19,20,21,22],[22,23])])
def gcut_4.B4:List Nat:=[0,1,3,7,0,16,48,112,240,496,0,1024,3072,7168,0,16384,49152,114688,245760,507904,1047552,2096128,4193280,8388607,16777215]
theorem gcut_4.tab4:rtab .any (opsOf Tryd.f32 4)=gcut_4.T4:=by kernel_rfl
theorem gcut_4.bits4:waitsOk gcut_4.T4.2 gcut_4.B4=true:=by kernel_rfl
set_option maxRecDepth 100000 in
set_option maxHeartbeats 4000000 in
theorem cut_yes (w:World) (g:Nat) (v:Value) (an bn:Int) (fn:Nat) (l:List S41) (m q:Nat) (x:S41) (W:World) (h:RBox w g v an bn false fn l W)
  (hm:l.length=m+1) (hx:l[m]?=some x) (hq:x.f4.length=q+1) (hb:l.length≤1099511627776) (hb4:x.f4.length≤1099511627776) (hs:(rdOf ByteArray.empty x.f4 q).size≤1099511627776) :
  Calls Tryd.prog 32 #[.pointer (some ⟨g,0,none⟩),.string openB] W fun e w'=>e=.returned (.bool true) ∧
   RBox w g v an bn true fn (l.set m { x with f4:=x.f4.set q (chopB (rdOf ByteArray.empty x.f4 q)) }) w':=by
 have H:=Aside0.mk h
 have hz3:W.cell? ⟨g,3,none⟩=some (.bool false):=(blk_cell h.box 3).trans rfl
 obtain ⟨gl,cl,rfl,hgl,_,_⟩:=Kd.S_form h.row (by omega)
 have hz0:W.cell? ⟨g,0,none⟩=some (.slice (some ⟨gl,0,none⟩) l.length cl):=(blk_cell h.box 0).trans rfl
 have HL:=Aside0.mk hm
 have HX0:=Aside0.mk hx
 have HQ:=Aside0.mk hq
 clear h hx hq
 unfold openB
 go_enter Tryd.func32,Tryd.ntmps32
 go_upto_region 3 with (fail)
 have k1:IntKind.i64.wrap ((l.length:Int) - 1)=(m:Int):=by rw [IntWalk.i64_in _ (by omega)];omega
 go_quiet (fail)
 go_upto_region 4 with (fail)
 clear k1 hz0 hz3 hm
 have HX:=Aside0.mk ((H.out.below (pw_below_drewN (Below.refl _ _) nq)).drew)
 obtain ⟨oki,c,hcl,hM,hcc,hoki,hB⟩:=Kd.S_borrow HX.out.row z41 (m:Int) (by omega) (by have:=HL.out;omega)
 have hxd:l.getD (m:Int).toNat z41=x:=by rw [Int.toNat_natCast,List.getD_eq_getElem?_getD,HX0.out];rfl
 rw [hxd] at hM
 obtain ⟨v4,rfl,hR⟩:=k41_openM hM
 obtain ⟨g4,c4,rfl,hg4,_,cs4,hcs4⟩:=Kd.R_form hR (by have:=HQ.out;omega)
 have z4:(W.drewN nq).drew.cell? ⟨gl,m * 5+4,none⟩=some (.slice (some ⟨g4,0,none⟩) (q+1) c4):=by have h_:=hcc 4 _ rfl;rw [HQ.out] at h_;simpa [Addr.add,k41,Kd.iso,Kd.pair,Kd.int,Kd.scalar,Kd.slice] using h_
 have z5:(W.drewN nq).drew.cell? ⟨g4,q,none⟩=some (.string (rdOf ByteArray.empty x.f4 q)):=by have h_:=(Kd.R_celln ByteArray.empty hR (q:Int) (by omega) (by have:=HQ.out;omega)).1;rwa [Int.toNat_natCast] at h_
 have z6:(W.drewN nq).drew.frozen? ⟨g4,q,none⟩=false:=by have h_:=(Kd.R_celln ByteArray.empty hR (q:Int) (by omega) (by have:=HQ.out;omega)).2;rwa [Int.toNat_natCast] at h_
 have HB:=Aside0.mk @hB
 have HR:=Aside0.mk hR
 have HCS:=Aside0.mk hcs4
 have HK:=Aside0.mk (hoki g4 (hR.1 g4 (by simp [Value.ownBlock])))
 have HSZ:=Aside0.mk hs
 have k2:IntKind.i64.wrap ((q:Int)+1 - 1)=(q:Int):=by rw [IntWalk.i64_in _ (by have:=HQ.out;omega)];omega
 have k3:IntKind.i64.wrap (((q+1:Nat):Int) - 1)=(q:Int):=by rw [IntWalk.i64_in _ (by have:=HQ.out;omega)];omega
 have hqb:q≤1099511627776:=by have:=HQ.out;omega
 have k4:wrap64 (q:Int)=(q:Int):=by unfold wrap64;omega
 have k5:((q:Int)<(q:Int)+1)=True:=eq_true (by omega)
 clear hM hR hcc hoki hB hcl hxd hb4 hs hcs4
 refine start_ (n:=25) (S:=fun w'=>w'.cell? ⟨gl,m * 5+4,none⟩=some (.slice (some ⟨g4,0,none⟩) (q+1) c4)∧w'.cell? ⟨g4,q,none⟩=some (.string (rdOf ByteArray.empty x.f4 q))) (ds:=[24]) #[false,false,false,false,false,false,false,false,false,false,false,false,false,false,false,false,false,false,false,false,false,false,false,false,false] (by kernel_rfl) rfl rfl ⟨z4,z5⟩ (fun hHeld=>?_)
 refine with_tabW gcut_4.tab4 gcut_4.bits4 (fun HT_ HW_=>?_)
 generalize (W.drewN nq).drew=W2 at HX z4 z5 z6 HB HR HCS hHeld ⊢
 refine pure_ (i:=0) (N:=some 25) (v:=?_) (a':=?_) #[true,false,false,false,false,false,false,false,false,false,false,false,false,false,false,false,false,false,false,false,false,false,false,false,false] rfl rfl (any_of HT_.out (by kernel_rfl)) (fun _ _ _ h=>h) (Or.inl ⟨by rfl,?_⟩) ?_ ?_
 rotate_left
 ·intro w'
  go_simp
  with_reducible rfl
 rotate_left
 ·simp only [Act.put,List.setIfInBounds_toArray,List.set_cons_zero,List.set_cons_succ,i64_w,i32_w]
  rfl
 refine pure_ (i:=1) (N:=some 26) (v:=?_) (a':=?_) #[true,true,false,false,false,false,false,false,false,false,false,false,false,false,false,false,false,false,false,false,false,false,false,false,false] rfl rfl (any_of HT_.out (by kernel_rfl)) (fun _ _ _ h=>h) (Or.inl ⟨by rfl,?_⟩) ?_ ?_
 rotate_left
 ·intro w'
  go_simp
  with_reducible rfl
 rotate_left
 ·simp only [Act.put,List.setIfInBounds_toArray,List.set_cons_zero,List.set_cons_succ,i64_w,i32_w]
  rfl
 refine pure_ (i:=2) (N:=some 27) (v:=?_) (a':=?_) #[true,true,true,false,false,false,false,false,false,false,false,false,false,false,false,false,false,false,false,false,false,false,false,false,false] rfl rfl (any_of HT_.out (by kernel_rfl)) (fun _ _ _ h=>h) (Or.inl ⟨by rfl,?_⟩) ?_ ?_
 rotate_left
 ·intro w'
  go_simp
  with_reducible rfl
 rotate_left
 ·simp only [Act.put,List.setIfInBounds_toArray,List.set_cons_zero,List.set_cons_succ,i64_w,i32_w]
  rfl
 refine pure_ (i:=4) (N:=some 29) (v:=?_) (a':=?_) #[true,true,true,false,true,false,false,false,false,false,false,false,false,false,false,false,false,false,false,false,false,false,false,false,false] rfl rfl (any_of HT_.out (by kernel_rfl)) (fun _ _ _ h=>h) (Or.inl ⟨by rfl,?_⟩) ?_ ?_
 rotate_left
 ·intro w'
  go_simp
  with_reducible rfl
 rotate_left
 ·simp only [Act.put,List.setIfInBounds_toArray,List.set_cons_zero,List.set_cons_succ,i64_w,i32_w]
  rfl
 refine pure_ (i:=5) (N:=some 30) (v:=?_) (a':=?_) #[true,true,true,false,true,true,false,false,false,false,false,false,false,false,false,false,false,false,false,false,false,false,false,false,false] rfl rfl (any_of HT_.out (by kernel_rfl)) (fun _ _ _ h=>h) (Or.inl ⟨by rfl,?_⟩) ?_ ?_
 rotate_left
 ·intro w'
  go_simp
  with_reducible rfl
 rotate_left
 ·simp only [Act.put,List.setIfInBounds_toArray,List.set_cons_zero,List.set_cons_succ,i64_w,i32_w]
  rfl
 refine pure_ (i:=6) (N:=some 31) (v:=?_) (a':=?_) #[true,true,true,false,true,true,true,false,false,false,false,false,false,false,false,false,false,false,false,false,false,false,false,false,false] rfl rfl (any_of HT_.out (by kernel_rfl)) (fun _ _ _ h=>h) (Or.inl ⟨by rfl,?_⟩) ?_ ?_
 rotate_left
 ·intro w'
  go_simp
  with_reducible rfl
 rotate_left
 ·simp only [Act.put,List.setIfInBounds_toArray,List.set_cons_zero,List.set_cons_succ,i64_w,i32_w]
  rfl
 refine pure_ (i:=10) (N:=some 35) (v:=?_) (a':=?_) #[true,true,true,false,true,true,true,false,false,false,true,false,false,false,false,false,false,false,false,false,false,false,false,false,false] rfl rfl (any_of HT_.out (by kernel_rfl)) (fun _ _ _ h=>h) (Or.inl ⟨by rfl,?_⟩) ?_ ?_
 rotate_left
 ·intro w'
  go_simp
  with_reducible rfl
 rotate_left
 ·simp only [Act.put,List.setIfInBounds_toArray,List.set_cons_zero,List.set_cons_succ,i64_w,i32_w]
  rfl
 refine pure_ (i:=11) (N:=some 36) (v:=?_) (a':=?_) #[true,true,true,false,true,true,true,false,false,false,true,true,false,false,false,false,false,false,false,false,false,false,false,false,false] rfl rfl (any_of HT_.out (by kernel_rfl)) (fun _ _ _ h=>h) (Or.inl ⟨by rfl,?_⟩) ?_ ?_
 rotate_left
 ·intro w'
  go_simp
  with_reducible rfl
 rotate_left
 ·simp only [Act.put,List.setIfInBounds_toArray,List.set_cons_zero,List.set_cons_succ,i64_w,i32_w]
  rfl
 refine pure_ (i:=12) (N:=some 37) (v:=?_) (a':=?_) #[true,true,true,false,true,true,true,false,false,false,true,true,true,false,false,false,false,false,false,false,false,false,false,false,false] rfl rfl (any_of HT_.out (by kernel_rfl)) (fun _ _ _ h=>h) (Or.inl ⟨by rfl,?_⟩) ?_ ?_
 rotate_left
 ·intro w'
  go_simp
  with_reducible rfl
 rotate_left
 ·simp only [Act.put,List.setIfInBounds_toArray,List.set_cons_zero,List.set_cons_succ,i64_w,i32_w]
  rfl
 refine pure_ (i:=14) (N:=some 39) (v:=?_) (a':=?_) #[true,true,true,false,true,true,true,false,false,false,true,true,true,false,true,false,false,false,false,false,false,false,false,false,false] rfl rfl (any_of HT_.out (by kernel_rfl)) (fun _ _ _ h=>h) (Or.inl ⟨by rfl,?_⟩) ?_ ?_
 rotate_left
 ·intro w'
  go_simp
  with_reducible rfl
 rotate_left
 ·simp only [Act.put,List.setIfInBounds_toArray,List.set_cons_zero,List.set_cons_succ,i64_w,i32_w]
  rfl
 refine pure_ (i:=15) (N:=some 40) (v:=?_) (a':=?_) #[true,true,true,false,true,true,true,false,false,false,true,true,true,false,true,true,false,false,false,false,false,false,false,false,false] rfl rfl (any_of HT_.out (by kernel_rfl)) (fun _ _ _ h=>h) (Or.inl ⟨by rfl,?_⟩) ?_ ?_
 rotate_left
 ·intro w'
  go_simp
  with_reducible rfl
 rotate_left
 ·simp only [Act.put,List.setIfInBounds_toArray,List.set_cons_zero,List.set_cons_succ,i64_w,i32_w]
  rfl
 refine pure_ (i:=16) (N:=some 41) (v:=?_) (a':=?_) #[true,true,true,false,true,true,true,false,false,false,true,true,true,false,true,true,true,false,false,false,false,false,false,false,false] rfl rfl (any_of HT_.out (by kernel_rfl)) (fun _ _ _ h=>h) (Or.inl ⟨by rfl,?_⟩) ?_ ?_
 rotate_left
 ·intro w'
  go_simp
  with_reducible rfl
 rotate_left
 ·simp only [Act.put,List.setIfInBounds_toArray,List.set_cons_zero,List.set_cons_succ,i64_w,i32_w]
  rfl
 refine take_ (i:=3) (N:=some 28) (v:=?_) (a':=?_) #[true,true,true,true,true,true,true,false,false,false,true,true,true,false,true,true,true,false,false,false,false,false,false,false,false] rfl rfl (take_ofW HT_.out HW_.out (by kernel_rfl)) (fun _ _ _ h=>h) (Or.inl ⟨by rfl,?_⟩) hHeld ?_ ?_
 rotate_left
 ·rintro w' ⟨s0,s1⟩
  go_simp
  with_reducible rfl
 rotate_left
 ·simp only [Act.put,List.setIfInBounds_toArray,List.set_cons_zero,List.set_cons_succ,i64_w,i32_w]
  rfl
 refine take_ (i:=7) (N:=some 32) (v:=?_) (a':=?_) #[true,true,true,true,true,true,true,true,false,false,true,true,true,false,true,true,true,false,false,false,false,false,false,false,false] rfl rfl (take_ofW HT_.out HW_.out (by kernel_rfl)) (fun _ _ _ h=>h) (Or.inl ⟨by rfl,?_⟩) hHeld ?_ ?_
 rotate_left
 ·rintro w' ⟨s0,s1⟩
  go_simp
  with_reducible rfl
 rotate_left
 ·simp only [Act.put,List.setIfInBounds_toArray,List.set_cons_zero,List.set_cons_succ,i64_w,i32_w]
  rfl
 refine pure_ (i:=8) (N:=some 33) (v:=?_) (a':=?_) #[true,true,true,true,true,true,true,true,true,false,true,true,true,false,true,true,true,false,false,false,false,false,false,false,false] rfl rfl (any_of HT_.out (by kernel_rfl)) (fun _ _ _ h=>h) (Or.inl ⟨by rfl,?_⟩) ?_ ?_
 rotate_left
 ·intro w'
  go_simp
  with_reducible rfl
 rotate_left
 ·simp only [Act.put,List.setIfInBounds_toArray,List.set_cons_zero,List.set_cons_succ,i64_w,i32_w]
  rfl
 refine pure_ (i:=9) (N:=some 34) (v:=?_) (a':=?_) #[true,true,true,true,true,true,true,true,true,true,true,true,true,false,true,true,true,false,false,false,false,false,false,false,false] rfl rfl (any_of HT_.out (by kernel_rfl)) (fun _ _ _ h=>h) (Or.inl ⟨by rfl,?_⟩) ?_ ?_
 rotate_left
 ·intro w'
  go_simp
  with_reducible rfl
 rotate_left
 ·simp only [Act.put,List.setIfInBounds_toArray,List.set_cons_zero,List.set_cons_succ,i64_w,i32_w]
  rfl
 refine take_ (i:=13) (N:=some 38) (v:=?_) (a':=?_) #[true,true,true,true,true,true,true,true,true,true,true,true,true,true,true,true,true,false,false,false,false,false,false,false,false] rfl rfl (take_ofW HT_.out HW_.out (by kernel_rfl)) (fun _ _ _ h=>h) (Or.inl ⟨by rfl,?_⟩) hHeld ?_ ?_
 rotate_left
 ·rintro w' ⟨s0,s1⟩
  go_simp
  with_reducible rfl
 rotate_left
 ·simp only [Act.put,List.setIfInBounds_toArray,List.set_cons_zero,List.set_cons_succ,i64_w,i32_w]
  rfl
 refine take_ (i:=17) (N:=some 42) (v:=?_) (a':=?_) #[true,true,true,true,true,true,true,true,true,true,true,true,true,true,true,true,true,true,false,false,false,false,false,false,false] rfl rfl (take_ofW HT_.out HW_.out (by kernel_rfl)) (fun _ _ _ h=>h) (Or.inl ⟨by rfl,?_⟩) hHeld ?_ ?_
 rotate_left
 ·rintro w' ⟨s0,s1⟩
  go_simp
  with_reducible rfl
 rotate_left
 ·simp only [Act.put,List.setIfInBounds_toArray,List.set_cons_zero,List.set_cons_succ,i64_w,i32_w]
  rfl
 refine pure_ (i:=18) (N:=some 43) (v:=?_) (a':=?_) #[true,true,true,true,true,true,true,true,true,true,true,true,true,true,true,true,true,true,true,false,false,false,false,false,false] rfl rfl (any_of HT_.out (by kernel_rfl)) (fun _ _ _ h=>h) (Or.inl ⟨by rfl,?_⟩) ?_ ?_
 rotate_left
 ·intro w'
  go_simp
  with_reducible rfl
 rotate_left
 ·simp only [Act.put,List.setIfInBounds_toArray,List.set_cons_zero,List.set_cons_succ,i64_w,i32_w]
  rfl
 refine pure_ (i:=19) (N:=some 44) (v:=?_) (a':=?_) #[true,true,true,true,true,true,true,true,true,true,true,true,true,true,true,true,true,true,true,true,false,false,false,false,false] rfl rfl (any_of HT_.out (by kernel_rfl)) (fun _ _ _ h=>h) (Or.inl ⟨by rfl,?_⟩) ?_ ?_
 rotate_left
 ·intro w'
  go_simp
  with_reducible rfl
 rotate_left
 ·simp only [Act.put,List.setIfInBounds_toArray,List.set_cons_zero,List.set_cons_succ,i64_w,i32_w]
  rfl
 refine pure_ (i:=20) (N:=some 45) (v:=?_) (a':=?_) #[true,true,true,true,true,true,true,true,true,true,true,true,true,true,true,true,true,true,true,true,true,false,false,false,false] rfl rfl (any_of HT_.out (by kernel_rfl)) (fun _ _ _ h=>h) (Or.inl ⟨by rfl,?_⟩) ?_ ?_
 rotate_left
 ·intro w'
  go_simp
  with_reducible rfl
 rotate_left
 ·simp only [Act.put,List.setIfInBounds_toArray,List.set_cons_zero,List.set_cons_succ,i64_w,i32_w]
  rfl
 refine take_ (i:=21) (N:=some 46) (v:=?_) (a':=?_) #[true,true,true,true,true,true,true,true,true,true,true,true,true,true,true,true,true,true,true,true,true,true,false,false,false] rfl rfl (take_ofW HT_.out HW_.out (by kernel_rfl)) (fun _ _ _ h=>h) (Or.inl ⟨by rfl,?_⟩) hHeld ?_ ?_
 rotate_left
 ·rintro w' ⟨s0,s1⟩
  go_simp
  with_reducible rfl
 rotate_left
 ·simp only [Act.put,List.setIfInBounds_toArray,List.set_cons_zero,List.set_cons_succ,i64_w,i32_w]
  rfl
 refine one_ (i:=22) (N:=some 47) #[true,true,true,true,true,true,true,true,true,true,true,true,true,true,true,true,true,true,true,true,true,true,true,false,false] rfl rfl (one_of HT_.out (by kernel_rfl)) (by decide) (fun K hK=>?_)
 refine goes_ Tryd.func61 (by kernel_rfl) rfl #[.string (rdOf ByteArray.empty x.f4 q),.string ⟨#[10]⟩] (by rfl) rfl rfl (by simp only [List.map_toArray,List.map_cons,List.map_nil];rfl) ?_
 with_reducible refine (trim_calls (rdOf ByteArray.empty x.f4 q) _ (by have:=HSZ.out;omega)).mono ?_
 rintro e w3 ⟨rfl,rfl⟩
 refine ⟨_,rfl,?_⟩
 refine hK.out _ _ ⟨z4,z5⟩ (fun hHeld=>?_)
 clear hK K
 refine norm_ (a':=?_) ?_ ?_
 rotate_left
 ·show Act.put _ (some 47) _=_
  simp only [Act.put,List.setIfInBounds_toArray,List.set_cons_zero,List.set_cons_succ,i64_w,i32_w]
  rfl
 refine pure_ (i:=23) (N:=some 48) (v:=?_) (a':=?_) #[true,true,true,true,true,true,true,true,true,true,true,true,true,true,true,true,true,true,true,true,true,true,true,true,false] rfl rfl (any_of HT_.out (by kernel_rfl)) (fun _ _ _ h=>h) (Or.inl ⟨by rfl,?_⟩) ?_ ?_
 rotate_left
 ·intro w'
  go_simp
  with_reducible rfl
 rotate_left
 ·simp only [Act.put,List.setIfInBounds_toArray,List.set_cons_zero,List.set_cons_succ,i64_w,i32_w]
  rfl
 refine last_ (i:=24) (N:=none) #[true,true,true,true,true,true,true,true,true,true,true,true,true,true,true,true,true,true,true,true,true,true,true,true,true] rfl rfl (one_of HT_.out (by kernel_rfl)) (by decide) (fun K hK=>?_)
 refine skip_ (w1:=?_) (by rfl) rfl ?_ ?_
 rotate_left
 ·go_simp
  rfl
 refine hK.out _ _ ?_
 clear hK K
 refine done_ (done_of HT_.out (by kernel_rfl)) ?_

 have HY:RBox w g (.slice (some ⟨gl,0,none⟩) l.length cl) an bn false fn (l.set m { x with f4:=x.f4.set q (chopB (rdOf ByteArray.empty x.f4 q)) }) (w3.setCell ⟨g4,q,none⟩ (.string (chopB (rdOf ByteArray.empty x.f4 q)))):=by
  have hp:=Kd.R_putg HR.out (q:Int) (chopB (rdOf ByteArray.empty x.f4 q))
  rw [Int.toNat_natCast] at hp
  refine HX.out.inner hp.2 (fun k hk=>?_) (fun k hk=>?_) ?_
  ·obtain rfl:=Option.some.inj hk;exact ⟨_,HCS.out⟩
  ·obtain rfl:=Option.some.inj hk;exact hg4
  ·have h1:Kd.S k41 41 _ w.heap.size (fun _=>True) (.slice (some ⟨gl,0,none⟩) l.length cl) (l.set (m:Int).toNat { x with f4:=x.f4.set q (chopB (rdOf ByteArray.empty x.f4 q)) }):=HB.out hp.2 (fun k hk=>by obtain rfl:=Option.some.inj hk;exact HR.out.1 _ (by simp [Value.ownBlock])) (by
    refine k41_mkM _ _ _ { x with f4:=x.f4.set q (chopB (rdOf ByteArray.empty x.f4 q)) } ?_
    exact hp.1)
   rwa [Int.toNat_natCast] at h1
 have HY2:=Aside0.mk HY
 have z3:=(blk_cell HY.box 3).trans rfl
 have z3f:=blk_frozen HY.box 3
 clear HY z4 z5 z6 hHeld
 generalize w3.setCell ⟨g4,q,none⟩ (.string (chopB (rdOf ByteArray.empty x.f4 q)))=W5 at HY2 z3 z3f ⊢
 go_wp2
 go_ret
 exact ⟨rfl,HY2.out.bare_ true⟩
end Go.Proofs.YtamojbfmphainaaDoor.Pr
-- shrunk
/-
unified's reader: a head.
-/
namespace Go.Proofs.YtamojbfmphainaaDoor.Pr
open Go.RowKit Go.Proofs.YtamojbfmphainaaDoorW.PrintWords Go.Proofs.YtamojbfmphainaaDoorW.PrintLast Go.Proofs.YtamojbfmphainaaDoorW.PrintMore
def preB (s:ByteArray) (p:List UInt8):ByteArray:=⟨(Lib.trimPrefix s.data.toList p).toArray⟩
def sufB (s:ByteArray) (p:List UInt8):ByteArray:=⟨(Lib.trimSuffix s.data.toList p).toArray⟩
theorem preB_size (s:ByteArray) (p:List UInt8):(preB s p).size≤s.size:=by
 show (Lib.trimPrefix s.data.toList p).toArray.size≤s.data.size
 rw [List.size_toArray,← Array.length_toList]
 unfold Lib.trimPrefix
 split
 ·rw [List.length_drop];omega
 ·exact Nat.le_refl _
theorem sufB_size (s:ByteArray) (p:List UInt8):(sufB s p).size≤s.size:=by
 show (Lib.trimSuffix s.data.toList p).toArray.size≤s.data.size
 rw [List.size_toArray,← Array.length_toList]
 unfold Lib.trimSuffix
 split
 ·rw [List.length_take];exact Nat.min_le_right _ _
 ·exact Nat.le_refl _
def headT (s:ByteArray):ByteArray:=sufB (preB s [64,64,32,45]) [32,64,64,10]
def headB (s:ByteArray):Option S41 :=
 if Lib.hasPrefix s.data.toList [64,64,32,45]=true∧Lib.hasSuffix (preB s [64,64,32,45]).data.toList [32,64,64,10]=true∧cutIs (headT s) [32,43]=true then
  match sideB (cutA (headT s) [32,43]),sideB (cutC (headT s) [32,43]) with
  | some p,some q=>some ⟨p.1,p.2,q.1,q.2,[]⟩
  | _,_=>none
 else none
def HeadEnd (w:World) (g:Nat) (l:List S41) (s:ByteArray) (e:Ending) (w':World):Prop :=
 e=.returned (.bool (headB s).isSome)∧Keep1 w g w'∧∀ h,headB s=some h→∃ v,RBox w g v h.f1 h.f3 true (nextF h.f1 h.f3) (l++[h]) w'
theorem RBox.grow {w:World} {g:Nat} {v v1:Value} {an bn:Int} {bare:Bool} {fn:Nat} {l l':List S41} {W w1:World} (h:RBox w g v an bn bare fn l W) (hg:W.grownBy w1 v.ownBlock)
  (hS:Kd.S k41 41 w1 w.heap.size (fun _=>True) v1 l') (hb:Below w.heap.size W w1) :
  w1.heap[g]?=some (.cells #[v,.int .i64 an,.int .i64 bn,.bool bare,.func (.func fn) #[.pointer (some ⟨g,0,none⟩)] #[]] 57 (0,0))∧RBox w g v1 an bn bare fn l' (w1.setCell ⟨g,0,none⟩ v1):=by
 have hbx:=blk_grown h.box hg (Kd.S_ne h.row h.box (by decide))
 exact ⟨hbx,⟨blk_put hbx 0 _ rfl,Kd.S_set hS hbx (by intro q hq;simp [k41,Kd.iso,Kd.pair,Kd.int,Kd.scalar,Kd.slice,Kd.string] at hq;rcases hq with rfl|rfl<;>decide) 0 v1,(keep_below' h.bel hb (Nat.le_refl _)).set_ 0 v1⟩⟩
theorem none_of {α:Type} {o:Option α} (h:false=o.isSome):o=none:=by
 cases o with
 | none=>rfl
 | some x=>cases h
theorem prefix_calls (s p:ByteArray) (w:World):Calls Tryd.prog 75 #[.string s,.string p] w fun e w'=>e=.returned (.tuple #[.string (preB s p.data.toList),.bool (Lib.hasPrefix s.data.toList p.data.toList)])∧w'=w:=Tryd.strings_CutPrefix s p w
theorem suffix_calls (s p:ByteArray) (w:World) (hs:s.size≤4000000000):Calls Tryd.prog 76 #[.string s,.string p] w fun e w'=>e=.returned (.tuple #[.string (sufB s p.data.toList),.bool (Lib.hasSuffix s.data.toList p.data.toList)])∧w'=w:=Tryd.strings_CutSuffix s p w (by omega)
set_option maxRecDepth 100000 in
set_option maxHeartbeats 8000000 in
theorem head_calls (w:World) (g:Nat) (v:Value) (an bn:Int) (bare:Bool) (fn:Nat) (l:List S41) (s:ByteArray) (W:World) (h:RBox w g v an bn bare fn l W) (hL:LaidU W) (hs:s.size≤4000000000) (hl:l.length≤1099511627776) :
  Calls Tryd.prog 60 #[.pointer (some ⟨g,0,none⟩),.string s] W (HeadEnd w g l s):=by
 have H:=Aside0.mk h
 have HL:=Aside0.mk hL
 obtain ⟨t1,ht1⟩:∃ t,t=preB s [64,64,32,45]:=⟨_,rfl⟩
 obtain ⟨t2,ht2⟩:∃ t,t=headT s:=⟨_,rfl⟩
 obtain ⟨x,hx⟩:∃ x,x=cutA t2 [32,43]:=⟨_,rfl⟩
 obtain ⟨y,hy⟩:∃ y,y=cutC t2 [32,43]:=⟨_,rfl⟩
 obtain ⟨z1,hz1⟩:∃ z,z=Lib.hasPrefix s.data.toList [64,64,32,45]:=⟨_,rfl⟩
 obtain ⟨z2,hz2⟩:∃ z,z=Lib.hasSuffix t1.data.toList [32,64,64,10]:=⟨_,rfl⟩
 obtain ⟨z3,hz3⟩:∃ z,z=cutIs t2 [32,43]:=⟨_,rfl⟩
 obtain ⟨z4,hz4⟩:∃ z,z=(sideB x).isSome:=⟨_,rfl⟩
 obtain ⟨z5,hz5⟩:∃ z,z=(sideB y).isSome:=⟨_,rfl⟩
 have hs1:t1.size≤4000000000:=by rw [ht1];exact Nat.le_trans (preB_size _ _) hs
 have hs2:t2.size≤4000000000:=by rw [ht2,headT,← ht1];exact Nat.le_trans (sufB_size _ _) hs1
 have hs3:x.size≤4000000000:=by rw [hx];exact Nat.le_trans (cutA_size _ _) hs2
 have hs4:y.size≤4000000000:=by rw [hy];exact Nat.le_trans (cutC_size _ _) hs2
 have HD:=Aside0.mk (show headB s=if z1=true∧z2=true∧z3=true then (match sideB x,sideB y with|some p,some q=>some ⟨p.1,p.2,q.1,q.2,[]⟩|_,_=>none) else none by rw [headB,← ht1,← ht2,← hx,← hy,← hz1,← hz2,← hz3])
 have C1:=Aside0.mk (show ∀ W,Calls Tryd.prog 75 #[.string s,.string ⟨#[64,64,32,45]⟩] W fun e w'=>e=.returned (.tuple #[.string t1,.bool z1])∧w'=W by intro W;rw [ht1,hz1];exact prefix_calls s ⟨#[64,64,32,45]⟩ W)
 have C2:=Aside0.mk (show ∀ W,Calls Tryd.prog 76 #[.string t1,.string ⟨#[32,64,64,10]⟩] W fun e w'=>e=.returned (.tuple #[.string t2,.bool z2])∧w'=W by intro W;rw [hz2,ht2,headT,← ht1];exact suffix_calls t1 ⟨#[32,64,64,10]⟩ W hs1)
 have C3:=Aside0.mk (show ∀ W,LaidU W→Calls Tryd.prog 77 #[.string t2,.string ⟨#[32,43]⟩] W fun e w'=>e=.returned (.tuple #[.string x,.string y,.bool z3])∧Below W.heap.size W w' by intro W hW;rw [hx,hy,hz3];exact cut_calls t2 ⟨#[32,43]⟩ hs2 W hW)
 have C4:=Aside0.mk (side_calls x hs3)
 have C5:=Aside0.mk (side_calls y hs4)
 have HZ4:=Aside0.mk hz4
 have HZ5:=Aside0.mk hz5
 clear h hL hs ht1 ht2 hx hy hz1 hz2 hz3 hz4 hz5 hs1 hs2 hs3 hs4
 go_enter Tryd.func60,Tryd.ntmps60
 go_upto_region 6 with (first
  | (go_at_call 75;(with_reducible refine (C1.out _).mono ?_);rintro e w0 ⟨rfl,rfl⟩)
  | (go_at_call 76;(with_reducible refine (C2.out _).mono ?_);rintro e w0 ⟨rfl,rfl⟩)
  | (go_at_call 77;(with_reducible refine (C3.out _ HL.out).mono ?_);rintro e w1 ⟨rfl,hb⟩;have HL1:=Aside0.mk (HL.out.below hb);have H1:=Aside0.mk (H.out.below hb);clear hb)
  | (go_at_call 78;(with_reducible refine (C4.out _ HL1.out).mono ?_);rintro e w2 ⟨a,c,rfl,ha,hb⟩;rw [← HZ4.out];have HA:=Aside0.mk ha;have HL2:=Aside0.mk (HL1.out.below hb);have H2:=Aside0.mk (H1.out.below hb);clear ha hb)
  | (go_at_call 78;(with_reducible refine (C5.out _ HL2.out).mono ?_);rintro e w3 ⟨b,d,rfl,ha,hb⟩;rw [← HZ5.out];have HB:=Aside0.mk ha;have H3:=Aside0.mk (H2.out.below hb);clear ha hb))
 cases z1 with
 | false =>
  as_aux_lemma =>
  have HN:=Aside0.mk (show headB s=none by rw [HD.out];exact if_neg (by simp))
  clear HD
  go_wp2
  go_ret
  exact ⟨by rw [HN.out];first|done|rfl,H3.out.bel,(fun h hh=>by rw [HN.out] at hh;cases hh)⟩
 | true =>
  cases z2 with
  | false =>
   as_aux_lemma =>
   have HN:=Aside0.mk (show headB s=none by rw [HD.out];exact if_neg (by simp))
   clear HD
   go_wp2
   go_ret
   exact ⟨by rw [HN.out];first|done|rfl,H3.out.bel,(fun h hh=>by rw [HN.out] at hh;cases hh)⟩
  | true =>
   cases z3 with
   | false =>
    as_aux_lemma =>
    have HN:=Aside0.mk (show headB s=none by rw [HD.out];exact if_neg (by simp))
    clear HD
    go_wp2
    go_ret
    exact ⟨by rw [HN.out];first|done|rfl,H3.out.bel,(fun h hh=>by rw [HN.out] at hh;cases hh)⟩
   | true =>
    cases z4 with
    | false =>
     as_aux_lemma =>
     have HN:=Aside0.mk (show headB s=none by rw [HD.out,if_pos ⟨rfl,rfl,rfl⟩,none_of HZ4.out])
     clear HD
     go_wp2
     go_ret
     exact ⟨by rw [HN.out];first|done|rfl,H3.out.bel,(fun h hh=>by rw [HN.out] at hh;cases hh)⟩
    | true =>
     cases z5 with
     | false =>
      as_aux_lemma =>
      have HN:=Aside0.mk (show headB s=none by rw [HD.out,if_pos ⟨rfl,rfl,rfl⟩,none_of HZ5.out];rcases sideB x with _|p<;>rfl)
      clear HD
      go_wp2
      go_ret
      exact ⟨by rw [HN.out];first|done|rfl,H3.out.bel,(fun h hh=>by rw [HN.out] at hh;cases hh)⟩
     | true =>
      as_aux_lemma =>
      have hxs:sideB x=some (a,c):=by
       rcases hq:sideB x with _|p
       ·exact absurd HZ4.out (by rw [hq];exact Bool.noConfusion)
       ·rw [HA.out p hq]
      have hys:sideB y=some (b,d):=by
       rcases hq:sideB y with _|p
       ·exact absurd HZ5.out (by rw [hq];exact Bool.noConfusion)
       ·rw [HB.out p hq]
      have HN:=Aside0.mk (show headB s=some ⟨a,c,b,d,[]⟩ by rw [HD.out,if_pos ⟨rfl,rfl,rfl⟩,hxs,hys])
      clear HD hxs hys
      obtain ⟨A0,c0,e0⟩:=Kd.S_slice H3.out.row
      subst e0
      have z0:w3.cell? ⟨g,0,none⟩=some (.slice A0 l.length c0):=(blk_cell H3.out.box 0).trans rfl
      go_upto_region 9 with (first
       | ((with_reducible refine gate_dst (N:=73) rfl ?_);go_must (refine Kd.event_run rfl (v:=.slice (some ⟨w3.heap.size,0,none⟩) 1 1) (w1:=w3.alloc (.cells #[.int .i64 a,.int .i64 c,.int .i64 b,.int .i64 d,.slice none 0 0] 41 (0,0))) (by kernel_rfl) ?_);dsimp only [Act.put])
       | ((with_reducible refine gate_builtin (b:=.append) (xs:=#[.tmp 67,.tmp 73]) rfl ?_);at_builtin;go_must (refine Kd.S_append k41 (w0:=w3) w.heap.size rfl (.tmp 67) (.tmp 73) 22 41 (.agg #[(.int .i64 0),(.int .i64 0),(.int .i64 0),(.int .i64 0),(.slice none 0 0)]) 56 rfl Tryd.underlying22 info41 rfl (by decide) (by omega) _ l (⟨a,c,b,d,[]⟩:S41) [.int .i64 a,.int .i64 c,.int .i64 b,.int .i64 d,.slice none 0 0] (fun _=>True) (fun _=>False) rfl rfl (k41_mkM _ _ _ (⟨a,c,b,d,[]⟩:S41) (Kd.R_nil _ _ _ _ _)) (fun _ h=>h.elim) (fun _ _=>trivial) (Kd.S_mono H3.out.row (fun _ _=>⟨trivial,id⟩)) (Below.refl _ _) H3.out.bel.1.1 (by omega) ?_);intro v2 w4 ho hb2 hg2 hat;obtain ⟨A5,c5,e5⟩:=Kd.S_slice ho;rw [List.length_append,List.length_singleton] at e5;subst e5;go_must (have HG:=Aside0.mk (H3.out.grow hg2 ho hb2));clear z0;go_must (have z0:w4.cell? ⟨g,0,none⟩=some (.slice A0 l.length c0):=(blk_cell HG.out.1 0).trans rfl);go_must (have z0f:=blk_frozen HG.out.1 0);go_must (clear ho hb2 hg2 hat)))
      have HY:=Aside0.mk HG.out.2
      clear z0 z0f
      generalize w4.setCell ⟨g,0,none⟩ (.slice A5 (l.length+1) c5)=w5 at HY ⊢
      have z1:=(blk_cell HY.out.box 1).trans rfl
      have z2:=(blk_cell HY.out.box 2).trans rfl
      have z3:=(blk_cell HY.out.box 3).trans rfl
      have y1:=blk_frozen HY.out.box 1
      have y2:=blk_frozen HY.out.box 2
      have y3:=blk_frozen HY.out.box 3
      go_wp2_with (go_at_call 31;(with_reducible refine (next_calls w g _ c d true fn _ _ (((HY.out.an_ c).bn_ d).bare_ true)).mono ?_);rintro e w6 ⟨rfl,h6⟩;have HE:=Aside0.mk h6;clear h6)
      go_ret
      exact ⟨by rw [HN.out];first|done|rfl,HE.out.bel,(fun h hh=>by rw [HN.out] at hh;obtain rfl:=Option.some.inj hh;exact ⟨_,HE.out⟩)⟩
end Go.Proofs.YtamojbfmphainaaDoor.Pr
-- shrunk
/-
unified's reader: a hunk's line.
-/
namespace Go.Proofs.YtamojbfmphainaaDoor.Pr
open Go.RowKit Go.Proofs.YtamojbfmphainaaDoorW.PrintWords Go.Proofs.YtamojbfmphainaaDoorW.PrintLast Go.Proofs.YtamojbfmphainaaDoorW.PrintMore
theorem at_textA {w:World} {A:Option Addr} {xs:List ByteArray} (h:Kd.C Kd.string w A xs.length xs) (i:Nat) (hi:i<xs.length):∃ ad,A=some ad∧w.cell? (ad.add i)=some (.string xs[i]):=by
 obtain ⟨ad,e,hc⟩:=h.2.2 (by omega)
 obtain ⟨c,_,rfl,h3⟩:=hc i (xs[i]) (List.getElem?_eq_getElem hi)
 have h4:=h3 0 _ rfl
 rw [show Kd.string.sz=1 from rfl,Nat.mul_one,Nat.add_zero] at h4
 exact ⟨ad,e,h4⟩
def stepL (went:Bool) (c an bn:Int):Option (Int × Int):=if c=32 then some (an - 1,bn - 1) else if c=45 then (if went then none else some (an - 1,bn)) else if c=43 then some (an,bn - 1) else none
def wentB (L:List ByteArray):Bool:=match L.getLast? with
 | some s=>bt s 0 == 43
 | none=>false
def lineR (went closed:Bool) (c an bn:Int):Bool:=match stepL went c an bn with
 | some (a,b)=>closed && (decide (0≤a) && decide (0≤b))
 | none=>false
def addL (l:List S41) (m:Nat) (s:ByteArray):List S41:=match l[m]? with
 | some x=>l.set m { x with f4:=x.f4++[s] }
 | none=>l
def LineEnd (w:World) (g:Nat) (went closed:Bool) (c an bn:Int) (l:List S41) (m:Nat) (s:ByteArray) (e:Ending) (w':World):Prop :=
 e=.returned (.bool (lineR went closed c an bn))∧Keep1 w g w'∧∀ a b,stepL went c an bn=some (a,b)→∃ v,RBox w g v a b false (nextF a b) (addL l m s) w'
set_option maxRecDepth 100000 in
set_option maxHeartbeats 8000000 in
theorem line_calls (w:World) (g:Nat) (v:Value) (an bn:Int) (bare:Bool) (fn:Nat) (l:List S41) (m:Nat) (x:S41) (s:ByteArray) (closed:Bool) (W:World) (h:RBox w g v an bn bare fn l W)
  (hm:l.length=m+1) (hx:l[m]?=some x) (hb:l.length≤1099511627776) (hb4:x.f4.length≤1099511627776) (hne:∀ t ∈ x.f4,0<t.size) (hs:0<s.size) (ha0:0≤an) (ha1:an≤1099511627776) (hb0:0≤bn) (hb1:bn≤1099511627776) (hc:lines_Closed.f s=some closed) :
  Calls Tryd.prog 59 #[.pointer (some ⟨g,0,none⟩),.string s] W (LineEnd w g (wentB x.f4) closed (bt s 0) an bn l m s):=by
 have H:=Aside0.mk h
 obtain ⟨gl,cl,rfl,hgl,_,_⟩:=Kd.S_form h.row (by omega)
 have hz0:W.cell? ⟨g,0,none⟩=some (.slice (some ⟨gl,0,none⟩) l.length cl):=(blk_cell h.box 0).trans rfl
 have HL:=Aside0.mk hm
 have HX0:=Aside0.mk hx
 have HNE:=Aside0.mk hne
 have HS:=Aside0.mk hs
 have HC:=Aside0.mk hc
 have HG:=Aside0.mk hgl
 clear h hx hne hs hc hgl
 obtain ⟨went,hwent⟩:∃ b,b=wentB x.f4:=⟨_,rfl⟩
 rw [← hwent]
 have HW:=Aside0.mk hwent
 obtain ⟨C,hC⟩:∃ C:Int,C=bt s 0:=⟨_,rfl⟩
 rw [← hC]
 have HCC:=Aside0.mk hC
 clear hwent hC
 go_enter Tryd.func59,Tryd.ntmps59
 have k1:IntKind.i64.wrap ((l.length:Int) - 1)=(m:Int):=by rw [IntWalk.i64_in _ (by omega)];omega
 go_wp2
 go_quiet (fail)
 go_upto_region 2 with (fail)
 clear k1 hz0
 go_cut [6] (fun v6 wc=>v6=.bool went∧Aside0 (RBox w g (.slice (some ⟨gl,0,none⟩) l.length cl) an bn bare fn l wc))
 case first =>
  have HX:=Aside0.mk (H.out.below (pw_below_drewN (Below.refl _ _) nq))
  obtain ⟨oki,c,hcl,hM,hcc,hoki,hB⟩:=Kd.S_borrow HX.out.row z41 (m:Int) (by omega) (by have:=HL.out;omega)
  have hxd:l.getD (m:Int).toNat z41=x:=by rw [Int.toNat_natCast,List.getD_eq_getElem?_getD,HX0.out];rfl
  rw [hxd] at hM
  obtain ⟨v4,rfl,hR⟩:=k41_openM hM
  obtain ⟨A4,c4,rfl,hc4,hr4⟩:=Kd.R_reads hR
  have z4:(W.drewN nq).cell? ⟨gl,m * 5+4,none⟩=some (.slice A4 x.f4.length c4):=by have h_:=hcc 4 _ rfl;simpa [Addr.add,k41,Kd.iso,Kd.pair,Kd.int,Kd.scalar,Kd.slice] using h_
  clear hcl hM hcc hoki hB hxd hR hc4 hm H
  generalize W.drewN nq=W2 at HX z4 hr4 ⊢
  by_cases hq0:x.f4.length=0
  ·obtain ⟨zb,hzb⟩:∃ zb:Bool,zb=false:=⟨_,rfl⟩
   have HWf:went=zb:=by
    rw [HW.out,hzb,wentB,List.eq_nil_of_length_eq_zero hq0];rfl
   have f1:decide (0<x.f4.length)=zb:=by rw [hzb];exact decide_eq_false (by omega)
   have f2:decide (0<(x.f4.length:Int))=zb:=by rw [hzb];exact decide_eq_false (by omega)
   have f3:(zb=true)=False:=by rw [hzb];exact eq_false (by decide)
   have HZ:=Aside0.mk hzb
   subst HWf
   clear hq0 hr4 hzb
   repeat (go_quiet (fail);try go_wp2)
   go_meet
   case rel=>exact ⟨by rw [HZ.out],⟨HX.out.below (pw_below_drewN (Below.refl _ _) _)⟩⟩
  ·obtain ⟨q,hq⟩:∃ q,x.f4.length=q+1:=⟨x.f4.length - 1,by omega⟩
   obtain ⟨ad,ea,hw1⟩:=at_textA hr4 q (by omega)
   cases ea
   obtain ⟨t,ht⟩:∃ t,t=x.f4[q]'(by omega):=⟨_,rfl⟩
   rw [← ht] at hw1
   have hts:0<t.size:=by rw [ht];exact HNE.out _ (List.getElem_mem _)
   obtain ⟨B,hB⟩:∃ B:Int,B=bt t 0:=⟨_,rfl⟩
   have hx7:∀ h:0<t.size,((t[0]'h).toNat:Int)=B:=by rw [hB];exact bt_at t 0
   have HWf:went=(B == 43):=by
    rw [HW.out,wentB,List.getLast?_eq_getElem?,hq,Nat.add_sub_cancel,List.getElem?_eq_getElem (show q<x.f4.length by omega),← ht,hB]
   have q7:(0<t.size)=True:=eq_true hts
   have qi7:(0<(t.size:Int))=True:=eq_true (by omega)
   have q8:(1≤t.size)=True:=eq_true hts
   have f1:decide (0<x.f4.length)=true:=decide_eq_true (by omega)
   have k5:((q:Int)<(q:Int)+1)=True:=eq_true (by omega)
   have k4:wrap64 (q:Int)=(q:Int):=by unfold wrap64;omega
   have k3:IntKind.i64.wrap (((q+1:Nat):Int) - 1)=(q:Int):=by clear k4;rw [IntWalk.i64_in _ (by omega)];omega
   have k2:IntKind.i64.wrap ((q:Int)+1 - 1)=(q:Int):=by clear k4 k3;rw [IntWalk.i64_in _ (by omega)];omega
   have HT:=Aside0.mk ht
   have HBt:=Aside0.mk hB
   subst HWf
   clear hq0 hr4 ht hts hB
   repeat (go_quiet (fail);try go_wp2)
   go_meet
   case rel=>exact ⟨rfl,⟨HX.out.below (pw_below_drewN (Below.refl _ _) _)⟩⟩
 case rest =>
  obtain ⟨rfl,HX⟩:=hcut
  clear H
  have hx8:∀ h:0<s.size,((s[0]'h).toNat:Int)=C:=by rw [HCC.out];exact bt_at s 0
  have q7:(0<s.size)=True:=eq_true HS.out
  have qi7:(0<(s.size:Int))=True:=eq_true (by have:=HS.out;omega)
  have q8:(1≤s.size)=True:=eq_true HS.out
  have z1:wc.cell? ⟨g,1,none⟩=some (.int .i64 an):=(blk_cell HX.out.box 1).trans rfl
  have z2:wc.cell? ⟨g,2,none⟩=some (.int .i64 bn):=(blk_cell HX.out.box 2).trans rfl
  have zf:=blk_frozen HX.out.box 1
  have zg:=blk_frozen HX.out.box 2
  clear hm
  go_upto_block 0 with (fail)
  go_cut [] (fun wd=>∃ a b:Int,Aside0 (stepL went C an bn=some (a,b))∧Aside0 (RBox w g (.slice (some ⟨gl,0,none⟩) l.length cl) a b bare fn l wd))
  case first =>
   by_cases c1:C=32
   ·as_aux_lemma =>
    have HT:=Aside0.mk (show stepL went C an bn=some (an - 1,bn - 1) by rw [stepL,if_pos c1])
    have c1a:(C == 32)=true:=beq_iff_eq.2 c1
    clear c1
    go_wp2
    go_meet
    case rel=>exact ⟨_,_,HT,⟨(HX.out.an_ _).bn_ _⟩⟩
   ·have c1a:(C == 32)=false:=beq_eq_false_iff_ne.2 c1
    by_cases c2:C=45
    ·have c2a:(C == 45)=true:=beq_iff_eq.2 c2
     cases went with
     | true =>
      as_aux_lemma =>
      have HT:=Aside0.mk (show stepL true C an bn=none by rw [stepL,if_neg c1,if_pos c2];rfl)
      clear c1 c2
      go_wp2
      go_ret
      exact ⟨by rw [show lineR _ closed C an bn=false by simp only [lineR,HT.out]];first|done|rfl,(HX.out.an_ _).bel,fun a b h=>by rw [HT.out] at h;cases h⟩
     | false =>
      as_aux_lemma =>
      have HT:=Aside0.mk (show stepL false C an bn=some (an - 1,bn) by rw [stepL,if_neg c1,if_pos c2];rfl)
      clear c1 c2
      go_wp2
      go_meet
      case rel=>exact ⟨_,_,HT,⟨HX.out.an_ _⟩⟩
    ·have c2a:(C == 45)=false:=beq_eq_false_iff_ne.2 c2
     by_cases c3:C=43
     ·as_aux_lemma =>
      have HT:=Aside0.mk (show stepL went C an bn=some (an,bn - 1) by rw [stepL,if_neg c1,if_neg c2,if_pos c3])
      have c3a:(C == 43)=true:=beq_iff_eq.2 c3
      clear c1 c2 c3
      go_wp2
      go_meet
      case rel=>exact ⟨_,_,HT,⟨HX.out.bn_ _⟩⟩
     ·as_aux_lemma =>
      have HT:=Aside0.mk (show stepL went C an bn=none by rw [stepL,if_neg c1,if_neg c2,if_neg c3])
      have c3a:(C == 43)=false:=beq_eq_false_iff_ne.2 c3
      clear c1 c2 c3
      go_wp2
      go_ret
      exact ⟨by rw [show lineR _ closed C an bn=false by simp only [lineR,HT.out]];first|done|rfl,HX.out.bel,fun a b h=>by rw [HT.out] at h;cases h⟩
  case rest =>
   obtain ⟨a,b,HST,HY⟩:=hcut
   clear z1 z2 zf zg q7 qi7 q8 hx8 HX
   obtain ⟨oki,c,hcl,hM,hcc,hfr,hoki,hH⟩:=Kd.S_elem HY.out.row z41 (m:Int) (by omega) (by have:=HL.out;omega)
   have hxd:l.getD (m:Int).toNat z41=x:=by rw [Int.toNat_natCast,List.getD_eq_getElem?_getD,HX0.out];rfl
   rw [hxd] at hM
   obtain ⟨v4,rfl,hR⟩:=k41_openM hM
   obtain ⟨A4,c4,rfl⟩:=Kd.R_slice hR
   have z4:wc.cell? ⟨gl,m * 5+4,none⟩=some (.slice A4 x.f4.length c4):=by have h_:=hcc 4 _ rfl;simpa [Addr.add,k41,Kd.iso,Kd.pair,Kd.int,Kd.scalar,Kd.slice] using h_
   have HNEb:=Aside0.mk (Kd.R_ne hR HY.out.box (by decide))
   have HR:=Aside0.mk (Kd.R_mono hR (ok':=fun k=>oki k∨wc.heap.size≤k) (fun _ h=>.inl h))
   have HH:=Aside0.mk (Kd.H_widen hH)
   have HBEL:=Aside0.mk HY.out.bel
   clear hM hcc hfr hoki hH hxd hR hcl
   have HNg:=Aside0.mk (show g≠gl from fun e=>Kd.S_ne HY.out.row HY.out.box (by decide) (by rw [e];simp [Value.ownBlock]))
   go_upto_region 17 with (first
    | ((with_reducible refine gate_builtin (b:=.append) (xs:=#[.tmp 81,.tmp 83]) rfl ?_);at_builtin;refine Kd.R_append Kd.string (w0:=wc) w.heap.size rfl (.tmp 81) (.tmp 83) 33 9 (.string ⟨#[]⟩) 16 rfl Tryd.underlying33 info9 rfl (by decide) (by omega) (.slice A4 x.f4.length c4) x.f4 s [.string s] (fun k=>oki k∨wc.heap.size≤k) (fun _=>False) rfl rfl rfl (fun _ h=>h.elim) (fun _ h=>.inr h) HR.out (Below.refl _ _) HBEL.out.1.1 (by omega) ?_;intro v2 w3 ho hb2 hg2 hat;have HO:=Aside0.mk ho;have HB2:=Aside0.mk hb2;have HH2:=Aside0.mk (Kd.H_grown HH.out hg2 (fun k hk=>(HR.out.1 k hk).imp id (fun h=>⟨trivial,h⟩)));have HBX:=Aside0.mk (blk_grown HY.out.box hg2 HNEb.out);clear ho hb2 hg2 hat z4)
    | ((with_reducible refine gate_store (t:=33) (p:=86) rfl ?_);refine Kd.H_store k41 (w0:=wc) w.heap.size rfl rfl 33 (.tmp 86) (.tmp 84) rfl 41 (m:Int) 4 l { x with f4:=x.f4++[s] } v2 [v2] _ (fun _=>True) _ (fun k=>oki k∨wc.heap.size≤k) rfl (by rw [Int.toNat_natCast];rfl) rfl (Kd.R_val HO.out).1 (by kernel_rfl) (by intro q hq;rw [List.mem_singleton.1 hq];exact (Kd.R_val HO.out).2) HH2.out (by omega) (by have:=HL.out;omega) (by show 4+1≤5;omega) (k41_mkM _ _ _ { x with f4:=x.f4++[s] } HO.out) (fun k hk=>hk.imp id (fun h=>⟨trivial,h⟩)) HB2.out ?_;intro w4 hS hb4w hg4;have HZ:=Aside0.mk (show RBox w g (.slice (some ⟨gl,0,none⟩) l.length cl) a b bare fn (addL l m s) w4 from ⟨blk_grown HBX.out hg4 (fun e=>HNg.out (Option.some.inj e)),by rw [addL,HX0.out];rw [Int.toNat_natCast] at hS;exact hS,keep_below' HY.out.bel hb4w (Nat.le_refl _)⟩);have z3:=(blk_cell HZ.out.box 3).trans rfl;have z3f:=blk_frozen HZ.out.box 3;clear hS hb4w hg4)
    | (go_at_call 31;(with_reducible refine (next_calls w g _ a b false fn _ _ (HZ.out.bare_ false)).mono ?_);rintro e w5 ⟨rfl,h5⟩;have HE:=Aside0.mk h5;clear h5))
   have z1:w5.cell? ⟨g,1,none⟩=some (.int .i64 a):=(blk_cell HE.out.box 1).trans rfl
   have z2:w5.cell? ⟨g,2,none⟩=some (.int .i64 b):=(blk_cell HE.out.box 2).trans rfl
   have fin:∀ r w',r=(closed && (decide (0≤a) && decide (0≤b)))→Below w5.heap.size w5 w'→LineEnd w g went closed C an bn l m s (.returned (.bool r)) w':=by
    intro r w' hr hb'
    refine ⟨?_,(HE.out.below hb').bel,fun a' b' h=>?_⟩
    ·rw [hr];simp only [lineR,HST.out]
    ·rw [HST.out] at h
     cases h
     exact ⟨_,HE.out.below hb'⟩
   have FIN:=Aside0.mk fin
   clear fin z3 z3f
   cases closed with
   | false =>
    as_aux_lemma =>
    go_wp2_with (go_at_call 25;(with_reducible refine (lines_Closed.calls s false _ HC.out).mono ?_);rintro e w6 ⟨rfl,⟨nd,rfl⟩⟩)
    go_ret
    exact FIN.out _ _ rfl (pw_below_drewN (Below.refl _ _) _)
   | true =>
    by_cases ca:0≤a
    ·have cab:decide (0≤a)=true:=decide_eq_true ca
     by_cases cb:0≤b
     ·as_aux_lemma =>
      have cbb:decide (0≤b)=true:=decide_eq_true cb
      have hr:=Aside0.mk (show true=(true && (decide (0≤a) && decide (0≤b))) by rw [cab,cbb];rfl)
      clear ca cb
      go_wp2_with (go_at_call 25;(with_reducible refine (lines_Closed.calls s true _ HC.out).mono ?_);rintro e w6 ⟨rfl,⟨nd,rfl⟩⟩)
      go_ret
      exact FIN.out _ _ hr.out (pw_below_drewN (Below.refl _ _) _)
     ·as_aux_lemma =>
      have cbb:decide (0≤b)=false:=decide_eq_false cb
      have hr:=Aside0.mk (show false=(true && (decide (0≤a) && decide (0≤b))) by rw [cab,cbb];rfl)
      clear ca cb
      go_wp2_with (go_at_call 25;(with_reducible refine (lines_Closed.calls s true _ HC.out).mono ?_);rintro e w6 ⟨rfl,⟨nd,rfl⟩⟩)
      go_ret
      exact FIN.out _ _ hr.out (pw_below_drewN (Below.refl _ _) _)
    ·as_aux_lemma =>
     have cab:decide (0≤a)=false:=decide_eq_false ca
     have hr:=Aside0.mk (show false=(true && (decide (0≤a) && decide (0≤b))) by rw [cab];rfl)
     clear ca
     go_wp2_with (go_at_call 25;(with_reducible refine (lines_Closed.calls s true _ HC.out).mono ?_);rintro e w6 ⟨rfl,⟨nd,rfl⟩⟩)
     go_ret
     exact FIN.out _ _ hr.out (pw_below_drewN (Below.refl _ _) _)
end Go.Proofs.YtamojbfmphainaaDoor.Pr
-- shrunk
/-
unified.Parse as a plain function: a state, a step for each line.
-/
namespace Go.Proofs.YtamojbfmphainaaDoor.Pr
open Go.RowKit Go.Proofs.YtamojbfmphainaaDoorW.PrintWords Go.Proofs.YtamojbfmphainaaDoorW.PrintLast Go.Proofs.YtamojbfmphainaaDoorW.PrintMore
abbrev Hk:=S41
structure PS where
 l:List Hk
 an:Int
 bn:Int
 bare:Bool
def chopH (x:Hk):Hk:={ x with f4:=x.f4.set (x.f4.length - 1) (chopB (rdOf ByteArray.empty x.f4 ((x.f4.length - 1:Nat):Int))) }
def chopL (l:List Hk):List Hk:=match l[l.length - 1]? with
 | some x=>l.set (l.length - 1) (chopH x)
 | none=>l
def stepP (st:PS) (s:ByteArray):Option PS :=
 if s=openB∧st.bare=false then some ⟨chopL st.l,st.an,st.bn,true⟩
 else if st.an=0∧st.bn=0 then (headB s).map fun h=>⟨st.l++[h],h.f1,h.f3,true⟩
 else match st.l[st.l.length - 1]? with
  | some x=>if lineR (wentB x.f4) (closedL s.data.toList) (bt s 0) st.an st.bn=true then (stepL (wentB x.f4) (bt s 0) st.an st.bn).map fun p=>⟨addL st.l (st.l.length - 1) s,p.1,p.2,false⟩ else none
  | none=>none
def parseL:List ByteArray→Nat→PS→List Hk × Int × Int
 | [],i,st=>if st.an > 0∨st.bn > 0 then ([],(i:Int)+1,2) else (st.l,0,0)
 | s :: r,i,st=>match stepP st s with
  | some st'=>parseL r (i+1) st'
  | none=>([],(i:Int)+1,3)
def parseU (s:ByteArray):List Hk × Int × Int:=parseL (linesB s) 0 ⟨[],0,0,true⟩
def sign (c:Int):Prop:=c=32∨c=43∨c=45
def GoodL (B:Nat) (t:ByteArray):Prop:=0<t.size∧t.size≤B∧sign (bt t 0)
structure PInv (B k:Nat) (st:PS):Prop where
 a0:0≤st.an
 a1:st.an≤2147483647
 b0:0≤st.bn
 b1:st.bn≤2147483647
 len:st.l.length≤k
 last:(st.an≠0∨st.bn≠0∨st.bare=false)→∃ m x,st.l.length=m+1∧st.l[m]?=some x∧x.f4.length≤k∧(∀ t ∈ x.f4,GoodL B t)∧(st.bare=false→x.f4≠[])
theorem chopB_cases (t:ByteArray):chopB t=t∨(t.data.toList.getLast?=some 10∧chopB t=bs t.data.toList.dropLast):=by
 unfold chopB Lib.trimSuffix
 split
 ·rename_i h
  right
  unfold Lib.hasSuffix at h
  obtain ⟨u,hu⟩:=List.isSuffixOf_iff_suffix.1 h
  refine ⟨by rw [← hu,List.getLast?_append];rfl,?_⟩
  rw [← hu,List.length_append,List.length_singleton,Nat.add_sub_cancel,List.take_left,List.dropLast_concat]
  rfl
 ·left;rfl
theorem chopB_good {B:Nat} {t:ByteArray} (h:GoodL B t):GoodL B (chopB t):=by
 rcases chopB_cases t with e|⟨h1,e⟩
 ·rw [e];exact h
 ·obtain ⟨h2,h3,h4⟩:=h
  have hlen:t.data.toList.length=t.size:=rfl
  rcases hl:t.data.toList with _|⟨a,_|⟨b,r⟩⟩
  ·rw [hl] at hlen;simp at hlen;omega
  ·exfalso
   rw [hl] at h1
   have ha:a=10:=Option.some.inj h1
   have hb:bt t 0=10:=by
    have h5:=(bt_eq t 0 h2 10).2 (by simp only [hl,ha];rfl)
    exact h5
   rw [hb] at h4
   rcases h4 with h4|h4|h4<;>exact absurd h4 (by decide)
  ·rw [e,hl]
   have hsz:(bs (a :: b :: r).dropLast).size=t.size - 1:=by
    show (a :: b :: r).dropLast.toArray.size=_
    rw [List.size_toArray,List.length_dropLast,← hl,hlen]
   have h2':1<t.size:=by rw [← hlen,hl];simp
   refine ⟨by omega,by omega,?_⟩
   have h5:bt (bs (a :: b :: r).dropLast) 0=bt t 0:=by
    have e1:=bt_get (bs (a :: b :: r).dropLast) 0 (by omega)
    have e2:=bt_get t 0 h2
    simp only [Int.natCast_zero] at e1 e2
    rw [e1,e2]
    simp only [hl]
    rfl
   rw [h5];exact h4
theorem stepL_range {went:Bool} {c an bn a b:Int} (h:stepL went c an bn=some (a,b)):sign c∧a≤an∧b≤bn:=by
 unfold stepL at h
 split at h
 ·rename_i h1;cases h;exact ⟨.inl h1,by omega,by omega⟩
 ·split at h
  ·rename_i h1
   split at h
   ·cases h
   ·cases h;exact ⟨.inr (.inr h1),by omega,by omega⟩
  ·split at h
   ·rename_i h1;cases h;exact ⟨.inr (.inl h1),by omega,by omega⟩
   ·cases h
theorem sideB_range {s:ByteArray} {p:Int × Int} (h:sideB s=some p):0≤p.1∧p.1≤2147483647∧0≤p.2∧p.2≤2147483647:=by
 unfold sideB at h
 split at h
 ·split at h
  ·rename_i x y hx hy
   have h1:=numB_range hx
   have h2:=numB_range hy
   split at h
   ·cases h
   ·rename_i hn
    obtain rfl:=Option.some.inj h
    refine ⟨?_,?_,h2.1,by have:=h2.2.1;show y≤_;omega⟩
    ·show 0≤if y > 0 then x - 1 else x
     split<;>omega
    ·show (if y > 0 then x - 1 else x)≤2147483647
     split<;>omega
  ·cases h
 ·cases h
theorem headB_range {s:ByteArray} {h:Hk} (e:headB s=some h):0≤h.f0∧h.f0≤2147483647∧0≤h.f1∧h.f1≤2147483647∧0≤h.f2∧h.f2≤2147483647∧0≤h.f3∧h.f3≤2147483647∧h.f4=[]:=by
 unfold headB at e
 split at e
 ·split at e
  ·rename_i p q hp hq
   obtain rfl:=Option.some.inj e
   have h1:=sideB_range hp
   have h2:=sideB_range hq
   exact ⟨h1.1,h1.2.1,h1.2.2.1,h1.2.2.2,h2.1,h2.2.1,h2.2.2.1,h2.2.2.2,rfl⟩
  ·cases e
 ·cases e
theorem lineR_some {went closed:Bool} {c an bn:Int} (h:lineR went closed c an bn=true):∃ a b,stepL went c an bn=some (a,b)∧closed=true∧0≤a∧0≤b:=by
 unfold lineR at h
 split at h
 ·rename_i a b hs
  simp only [Bool.and_eq_true,decide_eq_true_eq] at h
  exact ⟨a,b,hs,h.1,h.2.1,h.2.2⟩
 ·cases h
theorem PInv.step {B k:Nat} {st st':PS} {s:ByteArray} (h:PInv B k st) (hs:0<s.size) (hB:s.size≤B) (e:stepP st s=some st'):PInv B (k+1) st':=by
 unfold stepP at e
 split at e
 ·rename_i hc
  obtain rfl:=Option.some.inj e
  obtain ⟨m,x,h1,h2,h3,h4,h5⟩:=h.last (.inr (.inr hc.2))
  have hcl:chopL st.l=st.l.set m (chopH x):=by rw [chopL,h1,Nat.add_sub_cancel,h2]
  refine ⟨h.a0,h.a1,h.b0,h.b1,?_,fun _=>⟨m,chopH x,?_,?_,?_,?_,fun h_=>by cases h_⟩⟩
  ·show (chopL st.l).length≤_
   rw [hcl,List.length_set];have:=h.len;omega
  ·show (chopL st.l).length=_
   rw [hcl,List.length_set];exact h1
  ·show (chopL st.l)[m]?=_
   rw [hcl,List.getElem?_set_self (by omega)]
  ·show (x.f4.set _ _).length≤_
   rw [List.length_set];omega
  ·intro t ht
   rcases List.mem_or_eq_of_mem_set ht with ht|rfl
   ·exact h4 t ht
   ·have hne:=h5 hc.2
    have hl:x.f4.length - 1<x.f4.length:=by
     have:=List.length_pos_iff.2 hne;omega
    rw [rdS_at hl]
    exact chopB_good (h4 _ (List.getElem_mem _))
 ·split at e
  ·rename_i hc0 hc
   obtain ⟨hd,he,rfl⟩:=Option.map_eq_some_iff.1 e
   have hr:=headB_range he
   refine ⟨hr.2.2.1,hr.2.2.2.1,hr.2.2.2.2.2.2.1,hr.2.2.2.2.2.2.2.1,?_,fun _=>⟨st.l.length,hd,?_,?_,?_,?_,fun h_=>by cases h_⟩⟩
   ·show (st.l++[hd]).length≤_
    rw [List.length_append,List.length_singleton];have:=h.len;omega
   ·show (st.l++[hd]).length=_
    rw [List.length_append,List.length_singleton]
   ·show (st.l++[hd])[st.l.length]?=_
    rw [List.getElem?_concat_length]
   ·rw [hr.2.2.2.2.2.2.2.2];exact Nat.zero_le _
   ·rw [hr.2.2.2.2.2.2.2.2];intro t ht;cases ht
  ·rename_i hc0 hc
   split at e
   ·rename_i x hx
    split at e
    ·rename_i hl
     obtain ⟨a,b,hst,hcl,ha,hb⟩:=lineR_some hl
     rw [hst] at e
     obtain rfl:=Option.some.inj e
     have hr:=stepL_range hst
     obtain ⟨m,x',h1,h2,h3,h4,h5⟩:=h.last (by
      by_cases h0:st.an=0
      ·exact .inr (.inl fun hb0=>hc ⟨h0,hb0⟩)
      ·exact .inl h0)
     rw [h1,Nat.add_sub_cancel,h2] at hx
     obtain rfl:=Option.some.inj hx
     have hadd:addL st.l (st.l.length - 1) s=st.l.set m { x' with f4:=x'.f4++[s] }:=by rw [addL,h1,Nat.add_sub_cancel,h2]
     refine ⟨ha,by have:=hr.2.1;have:=h.a1;show a≤_;omega,hb,by have:=hr.2.2;have:=h.b1;show b≤_;omega,?_,fun _=>⟨m,{ x' with f4:=x'.f4++[s] },?_,?_,?_,?_,fun _=>by simp⟩⟩
     ·show (addL st.l (st.l.length - 1) s).length≤_
      rw [hadd,List.length_set];have:=h.len;omega
     ·show (addL st.l (st.l.length - 1) s).length=_
      rw [hadd,List.length_set];exact h1
     ·show (addL st.l (st.l.length - 1) s)[m]?=_
      rw [hadd,List.getElem?_set_self (by omega)]
     ·show (x'.f4++[s]).length≤_
      rw [List.length_append,List.length_singleton];omega
     ·intro t ht
      rcases List.mem_append.1 ht with ht|ht
      ·exact h4 t ht
      ·obtain rfl:=List.mem_singleton.1 ht
       exact ⟨hs,hB,hr.1⟩
    ·cases e
   ·cases e
end Go.Proofs.YtamojbfmphainaaDoor.Pr
-- shrunk
/-
What package hunk makes of edits: group and Make, as plain Lean.
-/
namespace Go.Proofs.YtamojbfmphainaaDoor.Pr
open Go.RowKit Go.Proofs.YtamojbfmphainaaDoorW.PrintWords Go.Proofs.YtamojbfmphainaaDoorW.PrintLast Go.Proofs.YtamojbfmphainaaDoorW.PrintMore
def blks (a:List ByteArray) (t:Nat):List Ed→List Blk
 | []=>[]
 | e :: l=>⟨(a.take e.f0.toNat).drop t,(a.take (e.f0+e.f1).toNat).drop e.f0.toNat,e.f2⟩ :: blks a (e.f0+e.f1).toNat l
def endE (p:Ed):List Ed→Int
 | []=>p.f0+p.f1
 | e :: l=>endE e l
def diffE:List Ed→Int
 | []=>0
 | e :: l=>((e.f2.length:Int) - e.f1)+diffE l
theorem okFrom_last {many:Int}:∀ (l:List Ed) (p:Ed) (fr:Int),okFrom fr many (p :: l)=true→fr≤endE p l∧p.f0+p.f1≤endE p l∧endE p l≤many
 | [],p,fr,h=>by obtain ⟨c1,c2,c3,c4,_,_⟩:=okFrom_cons h;simp only [endE];omega
 | e :: l,p,fr,h=>by
  obtain ⟨c1,c2,c3,c4,_,h'⟩:=okFrom_cons h
  have:=okFrom_last l e _ h'
  simp only [endE];omega
theorem endE_get:∀ (l:List Ed) (p:Ed),endE p l=((p :: l)[l.length]'(by simp)).f0+((p :: l)[l.length]'(by simp)).f1
 | [],p=>rfl
 | e :: l,p=>by have:=endE_get l e;simpa [endE] using this
theorem blks_ok (a:List ByteArray):∀ (l:List Ed) (fr:Int) (t:Nat) (first:Bool),(t:Int)≤fr→(first=true∨(t:Int)<fr)→okFrom fr a.length l=true→BOk first (blks a t l)
 | [],fr,t,first,h,hf,ho=>trivial
 | e :: l,fr,t,first,h,hf,ho=>by
  obtain ⟨c1,c2,c3,c4,c5,ho'⟩:=okFrom_cons ho
  refine ⟨?_,?_,blks_ok a l _ _ false (by omega) (Or.inr (by omega)) ho'⟩
  ·by_cases hi:e.f2=[]
   ·left
    intro hd
    have h2:=congrArg List.length hd
    simp only [List.length_drop,List.length_take,List.length_nil] at h2
    exact c5 ⟨by omega,hi⟩
   ·exact Or.inr hi
  ·rcases hf with hf|hf
   ·exact Or.inl hf
   ·right
    intro hk
    have h2:=congrArg List.length hk
    simp only [List.length_drop,List.length_take,List.length_nil] at h2
    omega
theorem blks_counts (a:List ByteArray):∀ (l:List Ed) (p:Ed) (fr:Int) (t:Nat),(t:Int)≤fr→okFrom fr a.length (p :: l)=true →
  (oldN (blks a t (p :: l)):Int)=endE p l - t∧(newN (blks a t (p :: l)):Int)=endE p l - t+diffE (p :: l)
 | [],p,fr,t,h,ho=>by
  obtain ⟨c1,c2,c3,c4,c5,ho'⟩:=okFrom_cons ho
  simp only [blks,oldN,newN,endE,diffE,List.length_drop,List.length_take]
  omega
 | e :: l,p,fr,t,h,ho=>by
  obtain ⟨c1,c2,c3,c4,c5,ho'⟩:=okFrom_cons ho
  have ih:=blks_counts a l e _ (p.f0+p.f1).toNat (by omega) ho'
  rw [blks]
  simp only [oldN,newN,endE,List.length_drop,List.length_take]
  rw [diffE]
  omega
theorem edB_blks (a:List ByteArray):∀ (l:List Ed) (fr:Int) (t:Nat),(t:Int)≤fr→okFrom fr a.length l=true→edB t (blks a t l)=l
 | [],fr,t,h,ho=>rfl
 | e :: l,fr,t,h,ho=>by
  obtain ⟨c1,c2,c3,c4,c5,ho'⟩:=okFrom_cons ho
  have ih:=edB_blks a l _ (e.f0+e.f1).toNat (by omega) ho'
  have e1:(t:Int)+((a.take e.f0.toNat).drop t).length=e.f0:=by simp only [List.length_drop,List.length_take];omega
  have e2:(((a.take (e.f0+e.f1).toNat).drop e.f0.toNat).length:Int)=e.f1:=by simp only [List.length_drop,List.length_take];omega
  simp only [blks,edB,e1,e2]
  rw [show e.f0+e.f1=(((e.f0+e.f1).toNat:Nat):Int) by omega]
  simp only [Int.toNat_natCast]
  rw [ih]
theorem blks_big (a:List ByteArray) (ha:∀ s ∈ a,s.size≤4611686018427387904):∀ (l:List Ed) (t:Nat),(∀ e ∈ l,∀ s ∈ e.f2,s.size≤4611686018427387904)→blkBig (blks a t l)
 | [],t,h=>trivial
 | e :: l,t,h=>⟨fun s hm=>by
   rcases List.mem_append.1 hm with hm|hm
   ·exact ha s (List.mem_of_mem_take (List.mem_of_mem_drop hm))
   ·exact h e (by simp) s hm,blks_big a ha l _ (fun e he=>h e (by simp [he]))⟩
theorem blks_len (a:List ByteArray):∀ (l:List Ed) (t:Nat),(blks a t l).length=l.length
 | [],t=>rfl
 | e :: l,t=>by simp only [blks,List.length_cons,blks_len a l]
def fromH (p:Ed) (ar:Int):Nat:=(p.f0 - ar).toNat
def toH (a:List ByteArray) (p:Ed) (l:List Ed) (ar:Int):Nat:=min a.length (endE p l+ar).toNat
def linesH (a:List ByteArray) (ar:Int) (p:Ed) (l:List Ed):List ByteArray:=blkLines (blks a (fromH p ar) (p :: l)) ((a.take (toH a p l ar)).drop (endE p l).toNat)
def hunkOf (a:List ByteArray) (ar more:Int) (p:Ed) (l:List Ed):Hk :=
 ⟨(fromH p ar:Int),(toH a p l ar:Int) - fromH p ar,fromH p ar+more,(toH a p l ar:Int) - fromH p ar+diffE (p :: l),linesH a ar p l⟩
theorem tail_len (a:List ByteArray) (ar:Int) (p:Ed) (l:List Ed) (fr:Int) (har:0≤ar) (hf:0≤fr) (ho:okFrom fr a.length (p :: l)=true) :
  ((((a.take (toH a p l ar)).drop (endE p l).toNat).length:Nat):Int)=toH a p l ar - endE p l∧endE p l≤toH a p l ar∧toH a p l ar≤a.length:=by
 have h:=okFrom_last l p fr ho
 obtain ⟨c1,c2,c3,c4,c5,ho'⟩:=okFrom_cons ho
 simp only [List.length_drop,List.length_take,toH]
 omega
theorem cntL_linesH (a:List ByteArray) (ar:Int) (p:Ed) (l:List Ed) (fr:Int) (har:0≤ar) (hf:0≤fr) (ho:okFrom fr a.length (p :: l)=true) :
  cntL false 0 0 (linesH a ar p l)=((toH a p l ar:Int) - fromH p ar,(toH a p l ar:Int) - fromH p ar+diffE (p :: l),true):=by
 obtain ⟨c1,c2,c3,c4,c5,ho'⟩:=okFrom_cons ho
 have ho0:okFrom p.f0 a.length (p :: l)=true:=by
  simp only [okFrom,Bool.and_eq_true,decide_eq_true_eq]
  exact ⟨⟨Int.le_refl _,c2,c3,c4,c5⟩,ho'⟩
 have hft:(fromH p ar:Int)≤p.f0:=by unfold fromH;omega
 have h1:=blks_ok a (p :: l) p.f0 (fromH p ar) true hft (Or.inl rfl) ho0
 have h2:=blks_counts a l p p.f0 (fromH p ar) hft ho0
 have h3:=tail_len a ar p l fr har hf ho
 rw [linesH,cntL_blk _ _ true false _ _ h1 (fun _=>rfl)]
 congr 1
 ·omega
 ·congr 1;omega
theorem Group_l0 (a:List ByteArray) (g:List Ed) (ha:a.length≤1099511627776) (hg:g.length≤1099511627776) (hsa:∀ s ∈ a,s.size≤4611686018427387904) (hsg:∀ e ∈ g,∀ s ∈ e.f2,s.size≤4611686018427387904) (q0 q1 q2 q3:Int) (tw:Nat) (hto:tw≤a.length) (G:List ByteArray) (hG:G.length≤1099511627776) (c:Int × Int × Bool) (hc:cntL false 0 0 G=c) :
  ∀ (d i t:Nat) (fr:Int) (en:Nat) (out:List ByteArray),g.length - i=d→i≤g.length→0≤fr→(t:Int)≤fr→t≤a.length→okFrom fr a.length (g.drop i)=true→en≤tw→(match g.drop i with|[]=>(en:Int)=t|p :: l=>(en:Int)=endE p l) →
   out++blkLines (blks a t (g.drop i)) ((a.take tw).drop en)=G→insE (g.drop i)≤1099511627776 →
  Ev (fun k=>hunk_group.l0 k a (tw:Int) (t:Int) g (g.length:Int) (i:Int) q0 q1 q2 q3 out) (q0,c.1,q2,c.2.1,G):=by
 intro d
 induction d with
 | zero =>
  intro i t fr en out hd hi hf0 hf ht ho hen hm hG2 hb
  refine Ev.step (fun _=>hunk_group.l0.eq_2 ..) ?_
  rw [List.drop_of_length_le (by omega:g.length≤i)] at *
  have hm':(en:Int)=t:=hm
  have hent:en=t:=by omega
  subst hent
  simp only [if_neg (show ¬ (i:Int)<(g.length:Int) by omega),if_pos (show 0≤(en:Int) by omega),if_pos (show (en:Int)≤(tw:Int) by omega),if_pos (show (tw:Int)≤(a.length:Int) by omega),Int.toNat_natCast]
  refine Ev.bind (signed_ev 32 32 enc32 _ (fun s hm=>hsa s (List.mem_of_mem_take (List.mem_of_mem_drop hm))) (by rw [List.length_drop,List.length_take];omega)) ?_
  have e:out++sgs 32 ((a.take tw).drop en)=G:=hG2
  have hL:=congrArg List.length e
  rw [List.length_append] at hL
  simp only [if_pos (show out.length+(sgs 32 ((a.take tw).drop en)).length<8796093022208 by omega),e,Option.bind_some]
  refine Ev.bind (count_ev G hG) ?_
  rw [hc]
  exact Ev.now _
 | succ d ih =>
  intro i t fr en out hd hi hf0 hf ht ho hen hm hG2 hb
  refine Ev.step (fun _=>hunk_group.l0.eq_2 ..) ?_
  have h0:i<g.length:=by omega
  rw [List.drop_eq_getElem_cons h0] at ho hm hG2 hb
  obtain ⟨c1,c2,c3,c4,c5,ho'⟩:=okFrom_cons ho
  have w1:wrap64 (g[i].f0+g[i].f1)=g[i].f0+g[i].f1:=w_in (by omega) (by omega)
  have hmem:g[i] ∈ g:=List.getElem_mem h0
  simp only [insE] at hb
  simp only [if_pos (show (i:Int)<(g.length:Int) by omega),if_pos (show 0≤(i:Int) by omega),rdE_at h0,w_succ h0 (show g.length≤4611686018427387904 by omega),if_pos (show 0≤(t:Int) by omega),if_pos (show (t:Int)≤g[i].f0 by omega),if_pos c3,w1,
   if_pos (show 0≤g[i].f0 by omega),if_pos (show g[i].f0≤g[i].f0+g[i].f1 by omega),if_pos (show g[i].f0+g[i].f1≤(a.length:Int) by omega),Int.toNat_natCast]
  refine Ev.bind (signed_ev 32 32 enc32 _ (fun s hm=>hsa s (List.mem_of_mem_take (List.mem_of_mem_drop hm))) (by rw [List.length_drop,List.length_take];omega)) ?_
  refine Ev.bind (signed_ev 45 45 enc45 _ (fun s hm=>hsa s (List.mem_of_mem_take (List.mem_of_mem_drop hm))) (by rw [List.length_drop,List.length_take];omega)) ?_
  refine Ev.bind (signed_ev 43 43 enc43 _ (fun s hm=>hsg _ hmem s hm) (by omega)) ?_
  have hcat:([out,sgs 32 ((a.take g[i].f0.toNat).drop t),sgs 45 ((a.take (g[i].f0+g[i].f1).toNat).drop g[i].f0.toNat),sgs 43 g[i].f2]:List (List ByteArray)).flatten
    = out++(sgs 32 ((a.take g[i].f0.toNat).drop t)++(sgs 45 ((a.take (g[i].f0+g[i].f1).toNat).drop g[i].f0.toNat)++sgs 43 g[i].f2)):=by simp
  have hL:=congrArg List.length hG2
  simp only [blks,blkLines,List.length_append] at hL
  simp only [slices_Concat_string_string.f,hcat]
  rw [if_pos (by simp only [List.length_append];omega)]
  simp only [Option.bind_some]
  rw [show g[i].f0+g[i].f1=(((g[i].f0+g[i].f1).toNat:Nat):Int) by omega]
  refine ih (i+1) (g[i].f0+g[i].f1).toNat (g[i].f0+g[i].f1+1) en _ (by omega) (by omega) (by omega) (by omega) (by omega) ho' hen ?_ ?_ (by omega)
  ·cases hq:g.drop (i+1) with
   | nil=>rw [hq] at hm;simp only [endE] at hm;show (en:Int)=_;omega
   | cons p l=>rw [hq] at hm;exact hm
  ·rw [← hG2]
   simp only [blks,blkLines,List.append_assoc,Int.toNat_natCast]
theorem Group_ev (a:List ByteArray) (p:Ed) (l:List Ed) (ar more fr:Int) (ha:a.length≤274877906944) (hg:l.length≤274877906944) (hsa:∀ s ∈ a,s.size≤4611686018427387904) (hsg:∀ e ∈ p :: l,∀ s ∈ e.f2,s.size≤4611686018427387904)
  (har:0≤ar) (har2:ar≤1000) (hm0:-4398046511104≤more) (hm1:more≤4398046511104) (hf:0≤fr) (ho:okFrom fr a.length (p :: l)=true) (hi:insE (p :: l)≤274877906944) (hdf:diffE (p :: l)≤274877906944) :
  Ev (fun k=>hunk_group.f k a (p :: l) ar more) ((hunkOf a ar more p l).f0,(hunkOf a ar more p l).f1,(hunkOf a ar more p l).f2,(hunkOf a ar more p l).f3,(hunkOf a ar more p l).f4):=by
 have hlast:=okFrom_last l p fr ho
 obtain ⟨c1,c2,c3,c4,c5,ho'⟩:=okFrom_cons ho
 have ho0:okFrom p.f0 a.length (p :: l)=true:=by
  simp only [okFrom,Bool.and_eq_true,decide_eq_true_eq]
  exact ⟨⟨Int.le_refl _,c2,c3,c4,c5⟩,ho'⟩
 have hft:(fromH p ar:Int)≤p.f0:=by unfold fromH;omega
 have hco:=blks_counts a l p p.f0 (fromH p ar) hft ho0
 have htl:=tail_len a ar p l fr har hf ho
 have hLen:((p :: l:List Ed).length:Int)=(l.length:Int)+1:=by simp
 have w0:wrap64 (((p :: l:List Ed).length:Int) - 1)=((l.length:Nat):Int):=by rw [w_in (by omega) (by omega)];omega
 have hlt:l.length<(p :: l).length:=by simp
 have hge:=endE_get l p
 have hr0:rd_T72 (p :: l) 0=p:=rfl
 unfold hunk_group.f
 simp only [w0,if_pos (show 0≤((l.length:Nat):Int) by omega),if_pos (show ((l.length:Nat):Int)<(((p :: l).length:Nat):Int) by omega),if_pos (show 0<(((p :: l).length:Nat):Int) by omega),rdE_at hlt,hr0]
 rw [w_in (x:=(p :: l)[l.length].f0+(p :: l)[l.length].f1) (by omega) (by omega),← hge,w_in (x:=endE p l+ar) (by omega) (by omega),w_in (x:=p.f0 - ar) (by omega) (by omega)]
 have e1:mx 0 (p.f0 - ar)=(fromH p ar:Int):=by unfold mx fromH;omega
 have e2:mn (a.length:Int) (endE p l+ar)=(toH a p l ar:Int):=by unfold mn toH;omega
 rw [e1,e2,w_in (x:=(fromH p ar:Int)+more) (by omega) (by omega)]
 have hlen:(linesH a ar p l).length≤1099511627776:=by
  have h:=blkLines_len (blks a (fromH p ar) (p :: l)) ((a.take (toH a p l ar)).drop (endE p l).toNat)
  unfold linesH
  omega
 have hcn:=cntL_linesH a ar p l fr har hf ho
 have h:=Group_l0 a (p :: l) (by omega) (by simp only [List.length_cons];omega) hsa hsg (fromH p ar) 0 (fromH p ar+more) 0 (toH a p l ar) (by omega) (linesH a ar p l) hlen _ hcn _ 0 (fromH p ar) p.f0 (endE p l).toNat [] rfl (by omega) (by omega) hft (by omega) ho0 (by omega) (by show (_:Int)=endE p l;omega) rfl (by rw [List.drop_zero];omega)
 exact h
end Go.Proofs.YtamojbfmphainaaDoor.Pr
-- shrunk
/-
What package hunk's Make makes of edits, as plain Lean, and what its hunks tell.
-/
namespace Go.Proofs.YtamojbfmphainaaDoor.Pr
open Go.RowKit Go.Proofs.YtamojbfmphainaaDoorW.PrintWords Go.Proofs.YtamojbfmphainaaDoorW.PrintLast Go.Proofs.YtamojbfmphainaaDoorW.PrintMore
def grp (ar:Int) (p:Ed):List Ed→List Ed × List Ed
 | []=>([],[])
 | e :: l=>if e.f0 - p.f0 - p.f1≤2 * ar then (e :: (grp ar e l).1,(grp ar e l).2) else ([],e :: l)
theorem grp_app (ar:Int):∀ (l:List Ed) (p:Ed),(grp ar p l).1++(grp ar p l).2=l
 | [],p=>rfl
 | e :: l,p=>by
  have ih:=grp_app ar l e
  rw [grp]
  split
  ·show e :: ((grp ar e l).1++(grp ar e l).2)=_
   rw [ih]
  ·rfl
theorem grp_len (ar:Int) (l:List Ed) (p:Ed):(grp ar p l).2.length≤l.length:=by
 have h:=congrArg List.length (grp_app ar l p)
 rw [List.length_append] at h
 omega
theorem grp_far (ar:Int):∀ (l:List Ed) (p q:Ed) (r:List Ed),(grp ar p l).2=q :: r→2 * ar<q.f0 - endE p (grp ar p l).1
 | [],p,q,r,h=>by simp [grp] at h
 | e :: l,p,q,r,h=>by
  rw [grp] at h ⊢
  by_cases c:e.f0 - p.f0 - p.f1≤2 * ar
  ·rw [if_pos c] at h ⊢
   have ih:=grp_far ar l e q r h
   simpa [endE] using ih
  ·rw [if_neg c] at h ⊢
   simp only [List.cons.injEq] at h
   obtain ⟨rfl,_⟩:=h
   simp only [endE];omega
def makeH (a:List ByteArray) (ar:Int) (more:Int):List Ed→List Hk
 | []=>[]
 | p :: l=>hunkOf a ar more p (grp ar p l).1 :: makeH a ar (more+diffE (p :: (grp ar p l).1)) (grp ar p l).2
termination_by l=>l.length
decreasing_by
 have:=grp_len ar l p
 simp only [List.length_cons];omega
theorem okFrom_split {many:Int}:∀ (l:List Ed) (p:Ed) (y:List Ed) (fr:Int),okFrom fr many (p :: (l++y))=true→okFrom fr many (p :: l)=true∧okFrom (endE p l+1) many y=true
 | [],p,y,fr,h=>by
  obtain ⟨c1,c2,c3,c4,c5,h'⟩:=okFrom_cons h
  refine ⟨?_,h'⟩
  simp only [okFrom,Bool.and_true,decide_eq_true_eq]
  exact ⟨c1,c2,c3,c4,c5⟩
 | e :: l,p,y,fr,h=>by
  obtain ⟨c1,c2,c3,c4,c5,h'⟩:=okFrom_cons h
  have ih:=okFrom_split l e y _ h'
  refine ⟨?_,ih.2⟩
  rw [okFrom,ih.1,Bool.and_true,decide_eq_true_eq]
  exact ⟨c1,c2,c3,c4,c5⟩
def delE:List Ed→Int
 | []=>0
 | e :: l=>e.f1+delE l
theorem diffE_eq:∀ l,diffE l=(insE l:Int) - delE l
 | []=>rfl
 | e :: l=>by have:=diffE_eq l;simp only [diffE,insE,delE];push_cast;omega
theorem insE_app:∀ x y,insE (x++y)=insE x+insE y
 | [],y=>by simp [insE]
 | e :: x,y=>by have:=insE_app x y;simp only [List.cons_append,insE];omega
theorem delE_app:∀ x y,delE (x++y)=delE x+delE y
 | [],y=>by simp [delE]
 | e :: x,y=>by have:=delE_app x y;simp only [List.cons_append,delE];omega
theorem delE_le {many:Int}:∀ (l:List Ed) (p:Ed) (fr:Int),okFrom fr many (p :: l)=true→0≤delE (p :: l)∧delE (p :: l)≤endE p l - p.f0
 | [],p,fr,h=>by obtain ⟨c1,c2,c3,c4,c5,h'⟩:=okFrom_cons h;simp only [delE,endE];omega
 | e :: l,p,fr,h=>by
  obtain ⟨c1,c2,c3,c4,c5,h'⟩:=okFrom_cons h
  have ih:=delE_le l e _ h'
  obtain ⟨d1,_,_,_,_,_⟩:=okFrom_cons h'
  rw [delE,endE];omega
theorem delE_nonneg {many fr:Int} (l:List Ed) (h:okFrom fr many l=true):0≤delE l:=by
 cases l with
 | nil=>simp [delE]
 | cons p l=>exact (delE_le l p fr h).1
theorem okFrom_each {many:Int}:∀ (l:List Ed) (fr:Int),okFrom fr many l=true→∀ e ∈ l,fr≤e.f0∧0≤e.f1∧e.f0+e.f1≤many
 | [],fr,h,e,he=>by cases he
 | p :: l,fr,h,e,he=>by
  obtain ⟨c1,c2,c3,c4,c5,h'⟩:=okFrom_cons h
  rcases List.mem_cons.1 he with rfl|he
  ·omega
  ·have:=okFrom_each l _ h' e he;omega
theorem turnFrom_app (a:List ByteArray):∀ (x y:List Ed) (more:Int),turnFrom a more (x++y)=turnFrom a more x++turnFrom a (more+diffE x) y
 | [],y,more=>by simp [turnFrom,diffE]
 | e :: x,y,more=>by
  have:=turnFrom_app a x y (more+((e.f2.length:Int) - e.f1))
  simp only [List.cons_append,turnFrom,diffE,this]
  rw [Int.add_assoc]
theorem Make_l1 (a:List ByteArray) (l:List Ed) (ar more:Int) (out:List Hk) (har:0≤ar) (har2:ar≤1000) (hl:l.length≤1099511627776) (hb:∀ e ∈ l,0≤e.f0∧0≤e.f1∧e.f0+e.f1≤1099511627776) (r:List Hk × Int) :
  ∀ (d n:Nat) (hd:l.length - n=d) (h1:1≤n) (h2:n≤l.length),
  (∀ m,m=n+(grp ar (l[n - 1]'(by omega)) (l.drop n)).1.length→m≤l.length→Ev (fun k=>(hunk_group.f k a (l.take m) ar more).bind fun bt=>(if out.length<2513169434916 then (hunk_Make.l0 k a (l.drop m) ar (out++[(⟨bt.1,bt.2.1,bt.2.2.1,bt.2.2.2.1,bt.2.2.2.2⟩:Hk)]) (wrap64 (more+(wrap64 (bt.2.2.2.1 - bt.2.1))))) else none)) r) →
  Ev (fun k=>hunk_Make.l1 k a l ar out more (n:Int)) r:=by
 intro d
 induction d with
 | zero =>
  intro n hd h1 h2 rest
  refine Ev.step (fun _=>hunk_Make.l1.eq_2 ..) ?_
  simp only [if_neg (show ¬ (n:Int)<(l.length:Int) by omega),if_pos (show 0≤(n:Int) by omega),if_pos (show (n:Int)≤(l.length:Int) by omega),Int.toNat_natCast]
  refine rest n ?_ h2
  rw [List.drop_of_length_le (by omega)]
  rfl
 | succ d ih =>
  intro n hd h1 h2 rest
  refine Ev.step (fun _=>hunk_Make.l1.eq_2 ..) ?_
  have h0:n<l.length:=by omega
  have hq:n - 1<l.length:=by omega
  have b1:=hb _ (List.getElem_mem h0)
  have b2:=hb _ (List.getElem_mem hq)
  have wn:wrap64 ((n:Int) - 1)=((n - 1:Nat):Int):=by rw [w_in (by omega) (by omega)];omega
  have w2:wrap64 (2 * ar)=2 * ar:=w_in (by omega) (by omega)
  simp only [if_pos (show (n:Int)<(l.length:Int) by omega),if_pos (show 0≤(n:Int) by omega),wn,if_pos (show 0≤((n - 1:Nat):Int) by omega),if_pos (show ((n - 1:Nat):Int)<(l.length:Int) by omega),rdE_at h0,rdE_at hq,w2,w_succ h0 (show l.length≤4611686018427387904 by omega),if_pos (show (n:Int)≤(l.length:Int) by omega),Int.toNat_natCast]
  rw [w_in (x:=l[n].f0 - l[n - 1].f0) (by omega) (by omega),w_in (x:=l[n].f0 - l[n - 1].f0 - l[n - 1].f1) (by omega) (by omega)]
  by_cases c:l[n].f0 - l[n - 1].f0 - l[n - 1].f1≤2 * ar
  ·simp only [if_pos c]
   refine ih (n+1) (by omega) (by omega) (by omega) (fun m hm hm2=>rest m ?_ hm2)
   rw [List.drop_eq_getElem_cons h0,grp,if_pos c]
   simp only [Nat.add_sub_cancel] at hm
   simp only [List.length_cons]
   omega
  ·simp only [if_neg c]
   refine rest n ?_ h2
   rw [List.drop_eq_getElem_cons h0,grp,if_neg c]
   rfl
theorem insE_mem':∀ (m:List Ed) (e:Ed),e ∈ m→e.f2.length≤insE m
 | x :: m,e,h=>by
  rcases List.mem_cons.1 h with rfl|h
  ·simp only [insE];omega
  ·have:=insE_mem' m e h;simp only [insE];omega
theorem Make_l0 (a:List ByteArray) (ar:Int) (ha:a.length≤274877906944) (hsa:∀ s ∈ a,s.size≤4611686018427387904) (har:0≤ar) (har2:ar≤1000) :
  ∀ (N:Nat) (l:List Ed) (more fr:Int) (out:List Hk),l.length≤N→l.length≤274877906944→(∀ e ∈ l,∀ s ∈ e.f2,s.size≤4611686018427387904)→0≤fr→okFrom fr a.length l=true→insE l≤274877906944 →
   more+insE l≤1099511627776 → -1099511627776≤more - delE l→out.length+l.length≤1099511627776 →
  Ev (fun k=>hunk_Make.l0 k a l ar out more) (out++makeH a ar more l,0):=by
 intro N
 induction N with
 | zero =>
  intro l more fr out hN hl hs hf ho hi hm1 hm2 hout
  have e:l=[]:=List.eq_nil_of_length_eq_zero (by omega)
  subst e
  refine Ev.step (fun _=>hunk_Make.l0.eq_2 ..) ?_
  simp only [List.length_nil,if_neg (show ¬ ((0:Nat):Int) > 0 by omega),makeH,List.append_nil]
  exact Ev.now _
 | succ N ih =>
  intro l more fr out hN hl hs hf ho hi hm1 hm2 hout
  cases l with
  | nil =>
   refine Ev.step (fun _=>hunk_Make.l0.eq_2 ..) ?_
   simp only [List.length_nil,if_neg (show ¬ ((0:Nat):Int) > 0 by omega),makeH,List.append_nil]
   exact Ev.now _
  | cons p l =>
   have happ:=grp_app ar l p
   have hsp:=okFrom_split (many:=a.length) (grp ar p l).1 p (grp ar p l).2 fr (by rw [happ];exact ho)
   have hlen:=congrArg List.length happ
   have hin:insE (p :: l)=insE (p :: (grp ar p l).1)+insE (grp ar p l).2:=by rw [← insE_app,List.cons_append,happ]
   have hde:delE (p :: l)=delE (p :: (grp ar p l).1)+delE (grp ar p l).2:=by rw [← delE_app,List.cons_append,happ]
   have hd1:=delE_le _ _ _ hsp.1
   have hd2:=delE_nonneg _ hsp.2
   have hdf:=diffE_eq (p :: (grp ar p l).1)
   have hla:=okFrom_last _ _ _ hsp.1
   rw [List.length_append] at hlen
   simp only [List.length_cons] at hN hl hout
   refine Ev.step (fun _=>hunk_Make.l0.eq_2 ..) ?_
   simp only [if_pos (show (((p :: l:List Ed).length:Nat):Int) > 0 by simp only [List.length_cons];omega)]
   refine Make_l1 a (p :: l) ar more out har har2 (by simp only [List.length_cons];omega) (fun e he=>by have:=okFrom_each _ _ ho e he;omega) _ _ 1 rfl (Nat.le_refl _) (by simp only [List.length_cons];omega) ?_
   intro m hm hm2
   have hm':m=1+(grp ar p l).1.length:=hm
   have hta:(p :: l).take m=p :: (grp ar p l).1:=by
    rw [hm',Nat.add_comm,List.take_succ_cons]
    congr 1
    have h:=List.take_left (l₁:=(grp ar p l).1) (l₂:=(grp ar p l).2)
    rwa [happ] at h
   have htd:(p :: l).drop m=(grp ar p l).2:=by
    rw [hm',Nat.add_comm,List.drop_succ_cons]
    have h:=List.drop_left (l₁:=(grp ar p l).1) (l₂:=(grp ar p l).2)
    rwa [happ] at h
   simp only [hta,htd]
   have hmem:∀ e ∈ p :: (grp ar p l).1,e ∈ p :: l:=fun e he=>by
    rw [← happ]
    rcases List.mem_cons.1 he with rfl|he
    ·simp
    ·simp [he]
   have hmem2:∀ e ∈ (grp ar p l).2,e ∈ p :: l:=fun e he=>by
    rw [← happ];simp [he]
   refine Ev.bind (Group_ev a p (grp ar p l).1 ar more fr ha (by omega) hsa (fun e he=>hs e (hmem e he)) har har2 (by omega) (by omega) hf hsp.1 (by omega) (by omega)) ?_
   simp only [if_pos (show out.length<2513169434916 by omega)]
   have hbn:(hunkOf a ar more p (grp ar p l).1).f3 - (hunkOf a ar more p (grp ar p l).1).f1=diffE (p :: (grp ar p l).1):=by simp only [hunkOf];omega
   rw [hbn,w_in (x:=diffE (p :: (grp ar p l).1)) (by omega) (by omega),w_in (x:=more+diffE (p :: (grp ar p l).1)) (by omega) (by omega)]
   have h:=ih (grp ar p l).2 (more+diffE (p :: (grp ar p l).1)) (endE p (grp ar p l).1+1) (out++[hunkOf a ar more p (grp ar p l).1]) (by omega) (by omega) (fun e he=>hs e (hmem2 e he)) (by omega) hsp.2 (by omega) (by omega) (by omega) (by rw [List.length_append,List.length_singleton];omega)
   rw [makeH]
   rw [List.append_assoc] at h
   exact h
theorem Make_ev (a:List ByteArray) (l:List Ed) (ar:Int) (ha:a.length≤274877906944) (hl:l.length≤274877906944) (hsa:∀ s ∈ a,s.size≤4611686018427387904) (hs:∀ e ∈ l,∀ s ∈ e.f2,s.size≤4611686018427387904)
  (har:0≤ar) (har2:ar≤1000) (ho:okFrom 0 a.length l=true) (hi:insE l≤274877906944):Ev (fun k=>hunk_Make.f k a l ar) (makeH a ar 0 l,0):=by
 unfold hunk_Make.f
 have hr:=Right_ev (a.length:Int) l (by omega) (by omega) (by omega)
 rw [ho] at hr
 refine Ev.bind hr ?_
 simp only [if_true,if_neg (show ¬ ar<0 by omega),decide_eq_false (show ¬ ar > 1000 by omega)]
 refine Ev.step (fun _=>hunk_Make.j0.eq_2 ..) ?_
 simp only [Bool.false_eq_true,if_false]
 have hde:delE l≤a.length:=by
  cases l with
  | nil=>simp [delE]
  | cons p l=>have h1:=delE_le l p 0 ho;have h2:=okFrom_last l p 0 ho;obtain ⟨c1,_,_,_,_,_⟩:=okFrom_cons ho;omega
 have h:=Make_l0 a ar ha hsa har har2 l.length l 0 0 [] (Nat.le_refl _) hl hs (by omega) ho hi (by omega) (by omega) (by simp;omega)
 exact h
structure HFact (h:Hk) (g tg:List Ed):Prop where
 right:Ev (fun k=>hunk_Right.f k h.f0 h.f1 h.f2 h.f3 h.f4) true
 edits:Ev (fun k=>hunk_Edits.f k h.f0 h.f1 h.f2 h.f3 h.f4) g
 big:0≤h.f0∧0≤h.f1∧h.f0+h.f1≤274877906944
theorem hunkOf_fact (a:List ByteArray) (p:Ed) (l:List Ed) (ar more fr:Int) (ha:a.length≤274877906944) (hl:l.length≤274877906944) (hsa:∀ s ∈ a,s.size≤4611686018427387904) (hs:∀ e ∈ p :: l,∀ s ∈ e.f2,s.size≤4611686018427387904)
  (har:0≤ar) (har2:ar≤1000) (hm0:0≤fromH p ar+more) (hm1:more≤1099511627776) (hf:0≤fr) (ho:okFrom fr a.length (p :: l)=true) (hi:insE (p :: l)≤274877906944) :
  HFact (hunkOf a ar more p l) (p :: l) (turnFrom a more (p :: l)):=by
 have hlast:=okFrom_last l p fr ho
 obtain ⟨c1,c2,c3,c4,c5,ho'⟩:=okFrom_cons ho
 have ho0:okFrom p.f0 a.length (p :: l)=true:=by
  simp only [okFrom,Bool.and_eq_true,decide_eq_true_eq]
  exact ⟨⟨Int.le_refl _,c2,c3,c4,c5⟩,ho'⟩
 have hft:(fromH p ar:Int)≤p.f0:=by unfold fromH;omega
 have hco:=blks_counts a l p p.f0 (fromH p ar) hft ho0
 have htl:=tail_len a ar p l fr har hf ho
 have hcn:=cntL_linesH a ar p l fr har hf ho
 have hok:=blks_ok a (p :: l) p.f0 (fromH p ar) true hft (Or.inl rfl) ho0
 have hbig:=blks_big a hsa (p :: l) (fromH p ar) hs
 have hbl:=blks_len a (p :: l) (fromH p ar)
 have hdf:=diffE_eq (p :: l)
 have hde:=delE_le _ _ _ ho
 simp only [List.length_cons] at hbl
 refine ⟨?_,?_,?_⟩
 ·have h:=HRight_ev (hunkOf a ar more p l).f0 (hunkOf a ar more p l).f1 (hunkOf a ar more p l).f2 (hunkOf a ar more p l).f3 (hunkOf a ar more p l).f4 (by
   have h:=blkLines_len (blks a (fromH p ar) (p :: l)) ((a.take (toH a p l ar)).drop (endE p l).toNat)
   show (linesH a ar p l).length≤_
   unfold linesH
   omega)
  rw [decide_eq_true (by
   show _∧_∧_∧_
   simp only [hunkOf]
   rw [hcn]
   exact ⟨rfl,by omega,hm0,rfl,rfl⟩)] at h
  exact h
 ·have h:=Edits_ev (hunkOf a ar more p l).f0 (hunkOf a ar more p l).f1 (hunkOf a ar more p l).f2 (hunkOf a ar more p l).f3 _ ((a.take (toH a p l ar)).drop (endE p l).toNat) hok (by simp only [hunkOf];omega) (by simp only [hunkOf];omega) (by omega) (by omega)
  have e:=edB_blks a (p :: l) p.f0 (fromH p ar) hft ho0
  have e2:edB (hunkOf a ar more p l).f0 (blks a (fromH p ar) (p :: l))=p :: l:=e
  rw [e2] at h
  exact h
 ·simp only [hunkOf]
  omega
def Chain (many:Int):Int→Bool→List Hk→List Ed→List Ed→Prop
 | en,_,[],r,tr=>r=[]∧tr=[]∧en≤many
 | en,f,h :: hs,r,tr=>∃ g r' tg tr':List Ed,r=g++r'∧tr=tg++tr'∧HFact h g tg∧en≤h.f0∧(f=false→en<h.f0)∧Chain many (h.f0+h.f1) false hs r' tr'
theorem makeH_chain (a:List ByteArray) (ar:Int) (ha:a.length≤274877906944) (hsa:∀ s ∈ a,s.size≤4611686018427387904) (har:0≤ar) (har2:ar≤1000) :
  ∀ (N:Nat) (l:List Ed) (more fr t en:Int) (f:Bool),l.length≤N→l.length≤274877906944→(∀ e ∈ l,∀ s ∈ e.f2,s.size≤4611686018427387904)→0≤fr→okFrom fr a.length l=true→insE l≤274877906944 →
   more+insE l≤1099511627776→0≤t+more→en≤a.length→(∀ p r,l=p :: r→t≤fromH p ar∧en≤fromH p ar∧(f=false→en<fromH p ar)) →
  Chain a.length en f (makeH a ar more l) l (turnFrom a more l):=by
 intro N
 induction N with
 | zero =>
  intro l more fr t en f hN hl hs hf ho hi hm1 hm2 hen hsep
  have e:l=[]:=List.eq_nil_of_length_eq_zero (by omega)
  subst e
  rw [makeH]
  exact ⟨rfl,rfl,hen⟩
 | succ N ih =>
  intro l more fr t en f hN hl hs hf ho hi hm1 hm2 hen hsep
  cases l with
  | nil=>rw [makeH];exact ⟨rfl,rfl,hen⟩
  | cons p l =>
   have happ:=grp_app ar l p
   have hsp:=okFrom_split (many:=a.length) (grp ar p l).1 p (grp ar p l).2 fr (by rw [happ];exact ho)
   have hlen:=congrArg List.length happ
   have hin:insE (p :: l)=insE (p :: (grp ar p l).1)+insE (grp ar p l).2:=by rw [← insE_app,List.cons_append,happ]
   have hd1:=delE_le _ _ _ hsp.1
   have hdf:=diffE_eq (p :: (grp ar p l).1)
   have hla:=okFrom_last _ _ _ hsp.1
   have htl:=tail_len a ar p (grp ar p l).1 fr har hf hsp.1
   have hse:=hsep p l rfl
   rw [List.length_append] at hlen
   simp only [List.length_cons] at hN hl
   have hmem:∀ e ∈ p :: (grp ar p l).1,e ∈ p :: l:=fun e he=>by
    rw [← happ]
    rcases List.mem_cons.1 he with rfl|he
    ·simp
    ·simp [he]
   have hmem2:∀ e ∈ (grp ar p l).2,e ∈ p :: l:=fun e he=>by
    rw [← happ];simp [he]
   obtain ⟨c1,c2,c3,c4,c5,ho'⟩:=okFrom_cons ho
   have hfp:(fromH p ar:Int)≤p.f0:=by unfold fromH;omega
   rw [makeH]
   refine ⟨p :: (grp ar p l).1,(grp ar p l).2,turnFrom a more (p :: (grp ar p l).1),turnFrom a (more+diffE (p :: (grp ar p l).1)) (grp ar p l).2,by rw [List.cons_append,happ],by rw [← turnFrom_app,List.cons_append,happ],
    hunkOf_fact a p _ ar more fr ha (by omega) hsa (fun e he=>hs e (hmem e he)) har har2 (by omega) (by omega) hf hsp.1 (by omega),hse.2.1,hse.2.2,?_⟩
   have hto:(hunkOf a ar more p (grp ar p l).1).f0+(hunkOf a ar more p (grp ar p l).1).f1=(toH a p (grp ar p l).1 ar:Int):=by simp only [hunkOf];omega
   rw [hto]
   refine ih (grp ar p l).2 _ (endE p (grp ar p l).1+1) (endE p (grp ar p l).1) _ false (by omega) (by omega) (fun e he=>hs e (hmem2 e he)) (by omega) hsp.2 (by omega) (by omega) (by omega) (by omega) ?_
   intro q r hq
   have hfar:=grp_far ar l p q r hq
   have hx:(toH a p (grp ar p l).1 ar:Int)≤endE p (grp ar p l).1+ar:=by unfold toH;omega
   have hy:q.f0 - ar≤(fromH q ar:Int):=by unfold fromH;omega
   exact ⟨by omega,by omega,fun _=>by omega⟩
def breaks (ar:Int) (p:Ed):List Ed→Nat
 | []=>0
 | e :: l=>(if e.f0 - p.f0 - p.f1≤2 * ar then 0 else 1)+breaks ar e l
theorem breaks_grp (ar:Int):∀ (l:List Ed) (p:Ed),breaks ar p l=match (grp ar p l).2 with|[]=>0|q :: r=>1+breaks ar q r
 | [],p=>rfl
 | e :: l,p=>by
  rw [breaks,grp]
  by_cases c:e.f0 - p.f0 - p.f1≤2 * ar
  ·rw [if_pos c,if_pos c,breaks_grp ar l e,Nat.zero_add]
  ·rw [if_neg c,if_neg c]
theorem makeH_len (a:List ByteArray) (ar:Int):∀ (N:Nat) (l:List Ed) (more:Int),l.length≤N→(makeH a ar more l).length=match l with|[]=>0|p :: r=>1+breaks ar p r:=by
 intro N
 induction N with
 | zero =>
  intro l more hN
  have e:l=[]:=List.eq_nil_of_length_eq_zero (by omega)
  subst e
  rw [makeH];rfl
 | succ N ih =>
  intro l more hN
  cases l with
  | nil=>rw [makeH];rfl
  | cons p l =>
   have hlen:=grp_len ar l p
   simp only [List.length_cons] at hN
   rw [makeH,List.length_cons,ih _ _ (by omega)]
   show _=1+breaks ar p l
   rw [breaks_grp ar l p]
   exact Nat.add_comm _ _
end Go.Proofs.YtamojbfmphainaaDoor.Pr
-- shrunk
/-
Playing and turning edits: plain facts on lists, no program in sight.
-/
namespace Go.Proofs.YtamojbfmphainaaDoor.Pr
def playR (s:List ByteArray) (t:Int):List Ed→List ByteArray
 | []=>s
 | e :: l=>s.take (e.f0 - t).toNat++e.f2++playR (s.drop (e.f0 - t+e.f1).toNat) (e.f0+e.f1) l
theorem playFrom_R (a:List ByteArray):∀ (l:List Ed) (fr:Int) (t:Nat),(t:Int)≤fr→okFrom fr a.length l=true→playFrom a t l=playR (a.drop t) t l
 | [],fr,t,h,ho=>rfl
 | e :: l,fr,t,h,ho=>by
  obtain ⟨c1,c2,c3,c4,_,ho'⟩:=okFrom_cons ho
  simp only [playFrom,playR]
  rw [playFrom_R a l _ (e.f0+e.f1).toNat (by omega) ho',List.drop_take,List.drop_drop,Int.toNat_of_nonneg (by omega),show e.f0.toNat - t=(e.f0 - (t:Int)).toNat by omega,show t+(e.f0 - (t:Int)+e.f1).toNat=(e.f0+e.f1).toNat by omega]
theorem insE_le:∀ l:List Ed,(insE l:Int)≤sizeE l
 | []=>by simp [insE,sizeE]
 | e :: l=>by have:=insE_le l;simp only [insE,sizeE];push_cast;omega
end Go.Proofs.YtamojbfmphainaaDoor.Pr
-- shrunk
