/-
Several plain texts in one.
-/
import Derived.Test.YtamojbfmphainaaDoorK5
import Derived.Lib.IndexMore
import Derived.Test.YtamojbfmphainaaDoorK4
import Derived.Test.YtamojbfmphainaaDoorK0
import Derived.Test.YtamojbfmphainaaDoorK1
import Derived.Outline
import Derived.Test.YtamojbfmphainaaDoorK3
import Derived.Test.YtamojbfmphainaaDoorD17a
import Derived.Deep.Strs
import Derived.SizedLaws
import Derived.ChangeOld
import Derived.Carry
import Derived.Test.YtamojbfmphainaaDoorWWords
import Derived.Test.YtamojbfmphainaaDoorWMore
import Derived.Test.YtamojbfmphainaaDoorWLast
import Derived.KernelRfl
set_option linter.unusedVariables false
set_option linter.unusedSimpArgs false
/-
What is printed is parsed, in plain Lean.
-/
namespace Go.Proofs.YtamojbfmphainaaDoor.Pr
open Go.RowKit Go.Proofs.YtamojbfmphainaaDoorW.PrintWords Go.Proofs.YtamojbfmphainaaDoorW.PrintLast Go.Proofs.YtamojbfmphainaaDoorW.PrintMore
theorem bt_head (s:ByteArray) (c:UInt8) (r:List UInt8) (h:s.data.toList=c :: r):bt s 0=(c.toNat:Int):=by
 have hs:0<s.size:=by
  have e:s.data.toList.length=s.size:=rfl
  rw [h] at e;simp at e;omega
 unfold bt
 rw [dif_pos (show (0:Int).toNat<s.size from hs)]
 have e:s[(0:Int).toNat]'hs=s.data.toList[0]'(hs):=rfl
 rw [e]
 congr 1
 congr 1
 simp [h]
theorem bt_app (s t:ByteArray) (hs:0<s.size):bt (s++t) 0=bt s 0:=by
 have e:s.data.toList.length=s.size:=rfl
 rcases h:s.data.toList with _|⟨c,r⟩
 ·rw [h] at e;simp at e;omega
 ·rw [bt_head s c r h,bt_head (s++t) c (r++t.data.toList) (by rw [ByteArray.data_append,Array.toList_append,h];rfl)]
theorem bt_openB:bt openB 0=92:=bt_head openB 92 _ rfl
theorem chop_nl (s:ByteArray):chopB (s++(⟨#[10]⟩:ByteArray))=s:=by
 unfold chopB
 rw [ByteArray.data_append,Array.toList_append,(suf_at s.data.toList [10]).2]
theorem last_at (l:List Hk) (y:Hk):(l++[y])[(l++[y]).length - 1]?=some y:=by simp
theorem set_at (l:List Hk) (y z:Hk):(l++[y]).set ((l++[y]).length - 1) z=l++[z]:=by
 rw [List.length_append,List.length_singleton,Nat.add_sub_cancel,List.set_append_right _ _ (Nat.le_refl _),Nat.sub_self];rfl
theorem line_step (l:List Hk) (y:Hk) (an bn an' bn':Int) (bare:Bool) (t:ByteArray) (hc:closedL t.data.toList=true) (ha:0≤an') (hb:0≤bn') (hw:bt t 0=45→wentB y.f4=false)
  (hs:(bt t 0=32∧an=an'+1∧bn=bn'+1)∨(bt t 0=45∧an=an'+1∧bn=bn')∨(bt t 0=43∧an=an'∧bn=bn'+1)) :
  stepP ⟨l++[y],an,bn,bare⟩ t=some ⟨l++[{ y with f4:=y.f4++[t] }],an',bn',false⟩:=by
 have hne:t≠openB:=by
  rintro rfl
  rw [bt_openB] at hs
  omega
 have hst:stepL (wentB y.f4) (bt t 0) an bn=some (an',bn'):=by
  unfold stepL
  rcases hs with ⟨h,h1,h2⟩|⟨h,h1,h2⟩|⟨h,h1,h2⟩
  ·rw [if_pos h,h1,h2];congr 1;simp
  ·rw [hw h,h,if_neg (by decide),if_pos rfl,h1,h2];simp
  ·rw [h,if_neg (by decide),if_neg (by decide),if_pos rfl,h1,h2];simp
 have hl:lineR (wentB y.f4) (closedL t.data.toList) (bt t 0) an bn=true:=by
  unfold lineR
  rw [hst,hc]
  simp [ha,hb]
 unfold stepP
 rw [if_neg (fun h=>hne h.1)]
 simp only
 rw [if_neg (show ¬ (an=0∧bn=0) by omega),last_at]
 simp only [hl,if_true,hst,Option.map_some]
 unfold addL
 rw [last_at]
 simp only
 rw [set_at]
theorem open_step (l:List Hk) (y:Hk) (d:List ByteArray) (s:ByteArray) (an bn:Int) (hy:y.f4=d++[s++(⟨#[10]⟩:ByteArray)]) :
  stepP ⟨l++[y],an,bn,false⟩ openB=some ⟨l++[{ y with f4:=d++[s] }],an,bn,true⟩:=by
 unfold stepP
 rw [if_pos ⟨rfl,rfl⟩]
 simp only
 unfold chopL
 rw [last_at]
 simp only
 rw [set_at]
 unfold chopH
 have e:y.f4.length - 1=d.length:=by rw [hy];simp
 have e2:rdOf ByteArray.empty y.f4 ((d.length:Nat):Int)=s++(⟨#[10]⟩:ByteArray):=by
  rw [rdS_at (by rw [hy];simp)]
  simp [hy]
 rw [e,e2,chop_nl,hy,List.set_append_right _ _ (Nat.le_refl _),Nat.sub_self]
 rfl
theorem went_snoc (d:List ByteArray) (s:ByteArray):wentB (d++[s])=decide (bt s 0=43):=by
 unfold wentB
 rw [List.getLast?_append]
 simp only [List.getLast?_singleton,Option.some_or]
 rw [Bool.eq_iff_iff,beq_iff_eq,decide_eq_true_iff]
theorem parseL_step {st st':PS} {t:ByteArray} (r:List ByteArray) (i:Nat) (h:stepP st t=some st'):parseL (t :: r) i st=parseL r (i+1) st':=by
 rw [parseL,h]
theorem fold_body (l:List Hk) (x:Hk) (rest:List ByteArray):∀ (rem done:List ByteArray) (bare:Bool) (i:Nat),okL (wentB done) rem=true →
  ∃ b',parseL (bodyT rem++rest) i ⟨l++[{ x with f4:=done }],(manyL 45 rem:Int),(manyL 43 rem:Int),bare⟩=parseL rest (i+(bodyT rem).length) ⟨l++[{ x with f4:=done++rem }],0,0,b'⟩
 | [],done,bare,i,_=>⟨bare,by simp [bodyT,manyL]⟩
 | s :: rem,done,bare,i,h=>by
  rw [okL,Bool.and_eq_true,decide_eq_true_eq] at h
  obtain ⟨⟨h0,hsg,hcm⟩,hrem⟩:=h
  rw [← went_snoc done s] at hrem
  have hw:bt s 0=45→wentB done=false:=fun e=>Bool.eq_false_iff.2 (fun e2=>hcm ⟨e,e2⟩)
  have e45:((manyL 45 (s :: rem):Nat):Int)=(if bt s 0=32∨bt s 0=45 then 1 else 0)+(manyL 45 rem:Nat):=by
   rw [manyL];simp only [h0,true_and];split<;>omega
  have e43:((manyL 43 (s :: rem):Nat):Int)=(if bt s 0=32∨bt s 0=43 then 1 else 0)+(manyL 43 rem:Nat):=by
   rw [manyL];simp only [h0,true_and];split<;>omega
  have hs:(bt s 0=32∧((manyL 45 (s :: rem):Nat):Int)=(manyL 45 rem:Nat)+1∧((manyL 43 (s :: rem):Nat):Int)=(manyL 43 rem:Nat)+1)∨(bt s 0=45∧((manyL 45 (s :: rem):Nat):Int)=(manyL 45 rem:Nat)+1∧((manyL 43 (s :: rem):Nat):Int)=(manyL 43 rem:Nat))∨(bt s 0=43∧((manyL 45 (s :: rem):Nat):Int)=(manyL 45 rem:Nat)∧((manyL 43 (s :: rem):Nat):Int)=(manyL 43 rem:Nat)+1):=by
   rw [e45,e43]
   rcases hsg with e|e|e<;>rw [e]<;>simp<;>omega
  rw [bodyT]
  by_cases hc:closedL s.data.toList=true
  ·rw [if_pos hc]
   have hst:=line_step l { x with f4:=done } _ _ ((manyL 45 rem:Nat):Int) ((manyL 43 rem:Nat):Int) bare s hc (by omega) (by omega) hw hs
   obtain ⟨b',ih⟩:=fold_body l x rest rem (done++[s]) false (i+1) hrem
   refine ⟨b',?_⟩
   show parseL (s :: (bodyT rem++rest)) i _=_
   rw [parseL_step _ _ hst,ih,List.append_assoc]
   congr 1
   show i+1+_=i+([s]++bodyT rem).length
   rw [List.length_append,List.length_singleton];omega
  ·rw [if_neg hc]
   have b0:bt (s++(⟨#[10]⟩:ByteArray)) 0=bt s 0:=bt_app _ _ h0
   have hst:=line_step l { x with f4:=done } _ _ ((manyL 45 rem:Nat):Int) ((manyL 43 rem:Nat):Int) bare (s++(⟨#[10]⟩:ByteArray)) (by rw [ByteArray.data_append,Array.toList_append,closedL];simp) (by omega) (by omega) (by rw [b0];exact hw) (by rw [b0];exact hs)
   have hop:=open_step l { x with f4:=done++[s++(⟨#[10]⟩:ByteArray)] } done s (manyL 45 rem:Int) (manyL 43 rem:Int) rfl
   obtain ⟨b',ih⟩:=fold_body l x rest rem (done++[s]) true (i+1+1) hrem
   refine ⟨b',?_⟩
   show parseL ((s++(⟨#[10]⟩:ByteArray)) :: openB :: (bodyT rem++rest)) i _=_
   rw [parseL_step _ _ hst,parseL_step _ _ hop,ih,List.append_assoc]
   congr 1
   show i+1+1+_=i+([s++(⟨#[10]⟩:ByteArray),openB]++bodyT rem).length
   rw [List.length_append];show _=i+(2+_);omega
theorem headOf_ne (x:Hk):headOf x≠openB:=by
 intro e
 have h:(headOf x).data.toList=openB.data.toList:=by rw [e]
 rw [headOf_bytes] at h
 exact absurd (List.cons.inj h).1 (by decide)
theorem head_step (l:List Hk) (x:Hk) (b:Bool) (h:HeadOk x):stepP ⟨l,0,0,b⟩ (headOf x)=some ⟨l++[{ x with f4:=[] }],x.f1,x.f3,true⟩:=by
 unfold stepP
 rw [if_neg (fun h=>headOf_ne x h.1),if_pos ⟨rfl,rfl⟩,head_at x h]
 rfl
theorem fold_hunk (l:List Hk) (x:Hk) (rest:List ByteArray) (b:Bool) (i:Nat) (h:canH x=true):∃ b',parseL (toldH x++rest) i ⟨l,0,0,b⟩=parseL rest (i+(toldH x).length) ⟨l++[x],0,0,b'⟩:=by
 obtain ⟨ho,hk,e1,e3,hn⟩:=canH_ok h
 obtain ⟨b',ih⟩:=fold_body l x rest x.f4 [] true (i+1) hk
 refine ⟨b',?_⟩
 show parseL (headOf x :: (bodyT x.f4++rest)) i _=_
 have h2:(⟨l++[{ x with f4:=[] }],x.f1,x.f3,true⟩:PS)=⟨l++[{ x with f4:=[] }],((manyL 45 x.f4:Nat):Int),((manyL 43 x.f4:Nat):Int),true⟩:=by
  rw [PS.mk.injEq];exact ⟨rfl,e1,e3,rfl⟩
 rw [parseL_step _ _ (head_step l x b ho),h2,ih,List.nil_append]
 congr 1
 show i+1+_=i+((bodyT x.f4).length+1)
 omega
theorem fold_list (rest:List ByteArray):∀ (l l0:List Hk) (b:Bool) (i:Nat),(∀ x ∈ l,canH x=true)→∃ b',parseL (toldL l++rest) i ⟨l0,0,0,b⟩=parseL rest (i+(toldL l).length) ⟨l0++l,0,0,b'⟩
 | [],l0,b,i,_=>⟨b,by simp [toldL]⟩
 | x :: l,l0,b,i,h=>by
  obtain ⟨b1,h1⟩:=fold_hunk l0 x (toldL l++rest) b i (h x List.mem_cons_self)
  obtain ⟨b2,h2⟩:=fold_list rest l (l0++[x]) b1 (i+(toldH x).length) (fun y hy=>h y (List.mem_cons_of_mem _ hy))
  refine ⟨b2,?_⟩
  have e:toldL (x :: l)=toldH x++toldL l:=rfl
  rw [e,List.append_assoc,h1,h2,List.append_assoc,List.length_append,Nat.add_assoc]
  rfl
theorem body_lines:∀ (r:List ByteArray) (came:Bool),okL came r=true→(∀ s ∈ r,noNl s=true)→∀ t ∈ bodyT r,IsLn t
 | [],_,_,_=>fun t ht=>by cases ht
 | s :: r,came,h,hn=>fun t ht=>by
  rw [okL,Bool.and_eq_true,decide_eq_true_eq] at h
  obtain ⟨⟨h0,-,-⟩,hrem⟩:=h
  have hlen:s.data.toList.length=s.size:=rfl
  have hne:s.data.toList≠[]:=by intro e;rw [e] at hlen;simp at hlen;omega
  have hs:¬ (10:UInt8) ∈ s.data.toList.dropLast:=of_decide_eq_true (hn s List.mem_cons_self)
  have hd:=List.dropLast_concat_getLast hne
  rw [bodyT] at ht
  rcases List.mem_append.1 ht with ht|ht
  ·by_cases hc:closedL s.data.toList=true
   ·rw [if_pos hc] at ht
    obtain rfl:=List.mem_singleton.1 ht
    refine ⟨t.data.toList.dropLast,?_,hs⟩
    unfold closedL at hc
    rw [Bool.or_eq_true,decide_eq_true_eq,beq_iff_eq,List.getLast?_eq_some_getLast hne] at hc
    rcases hc with hc|hc
    ·exact absurd hc hne
    ·rw [Option.some.inj hc] at hd;exact hd.symm
   ·rw [if_neg hc] at ht
    have hl:s.data.toList.getLast hne≠10:=by
     intro e
     apply hc
     unfold closedL
     rw [List.getLast?_eq_some_getLast hne,e];simp
    rcases List.mem_cons.1 ht with rfl|ht
    ·refine ⟨s.data.toList,by rw [ByteArray.data_append,Array.toList_append],?_⟩
     rw [← hd]
     intro hm
     rcases List.mem_append.1 hm with hm|hm
     ·exact hs hm
     ·exact hl (List.mem_singleton.1 hm).symm
    ·obtain rfl:=List.mem_singleton.1 ht
     exact ⟨[92,32,78,111,32,110,101,119,108,105,110,101,32,97,116,32,101,110,100,32,111,102,32,102,105,108,101],rfl,by decide⟩
  ·exact body_lines r _ hrem (fun s hs=>hn s (List.mem_cons_of_mem _ hs)) t ht
theorem told_lines (l:List Hk) (h:∀ x ∈ l,canH x=true):∀ t ∈ toldL l,IsLn t:=by
 intro t ht
 obtain ⟨x,hx,ht⟩:=List.mem_flatMap.1 ht
 obtain ⟨ho,hk,e1,e3,hn⟩:=canH_ok (h x hx)
 rcases List.mem_cons.1 ht with rfl|ht
 ·exact head_line x ho
 ·exact body_lines x.f4 false hk hn t ht
theorem print_lines (l:List Hk) (h:∀ x ∈ l,canH x=true):linesB (printL canH l ⟨#[]⟩)=toldL l :=
 linesB_told _ (told_lines l h) _ (print_bytes canH l ⟨#[]⟩ h)
theorem parse_print (l:List Hk) (h:∀ x ∈ l,canH x=true):parseU (printL canH l ⟨#[]⟩)=(l,0,0):=by
 unfold parseU
 rw [print_lines l h]
 obtain ⟨b,hb⟩:=fold_list [] l [] true 0 h
 rw [List.append_nil] at hb
 rw [hb,parseL]
 simp
end Go.Proofs.YtamojbfmphainaaDoor.Pr
-- shrunk
/-
What is parsed, printed, is the text again, in plain Lean.
-/
namespace Go.Proofs.YtamojbfmphainaaDoor.Pr
open Go.RowKit Go.Proofs.YtamojbfmphainaaDoorW.PrintWords Go.Proofs.YtamojbfmphainaaDoorW.PrintLast Go.Proofs.YtamojbfmphainaaDoorW.PrintMore
theorem cut_back {s sep a b:List UInt8} (h:Lib.cut s sep=(a,b,true)):s=a++sep++b:=by
 unfold Lib.cut at h
 rcases Lib.index_spec s sep with ⟨e,_⟩|⟨i,e,hi,ho,_⟩
 ·rw [e,if_neg (by decide)] at h
  exact absurd (congrArg (·.2.2) h) (by simp)
 ·rw [e,if_pos (by omega)] at h
  simp only [Int.toNat_natCast,Prod.mk.injEq,and_true] at h
  unfold Lib.occAt at ho
  rw [List.isPrefixOf_iff_prefix] at ho
  obtain ⟨r,hr⟩:=ho
  have e2:s.drop (i+sep.length)=r:=by rw [← List.drop_drop,← hr,List.drop_left]
  rw [← h.1,← h.2,e2,List.append_assoc,hr,List.take_append_drop]
theorem cutB_back {s:ByteArray} {sep:List UInt8} (h:cutIs s sep=true):s.data.toList=(cutA s sep).data.toList++sep++(cutC s sep).data.toList:=by
 unfold cutIs at h
 exact cut_back (s:=s.data.toList) (sep:=sep) (a:=(Lib.cut s.data.toList sep).1) (b:=(Lib.cut s.data.toList sep).2.1) (by rw [← h])
theorem sideB_back {u:ByteArray} {p:Int × Int} (h:sideB u=some p):fromB p.1 p.2=u∧0≤p.1∧firstI p.1 p.2<2147483648∧0≤p.2∧p.2<2147483648:=by
 unfold sideB at h
 split at h
 ·rename_i hc
  have hb:=cutB_back hc
  rcases hx:numB (cutA u [44]) with _|x
  ·rw [hx] at h;cases h
  ·rcases hy:numB (cutC u [44]) with _|y
   ·rw [hx,hy] at h;cases h
   ·rw [hx,hy] at h
    simp only at h
    obtain ⟨x0,x1,xe⟩:=numB_range hx
    obtain ⟨y0,y1,ye⟩:=numB_range hy
    split at h
    ·cases h
    ·rename_i hn
     obtain rfl:=Option.some.inj h
     have ef:firstI (if y > 0 then x - 1 else x) y=x:=by unfold firstI;split<;>simp_all
     refine ⟨?_,?_,?_,y0,y1⟩
     ·simp only
      unfold fromB
      rw [ef,xe,ye]
      apply ByteArray.ext
      apply Array.toList_inj.1
      simp only [ByteArray.data_append,Array.toList_append]
      exact hb.symm
     ·simp only;split<;>omega
     ·simp only;rw [ef];exact x1
 ·cases h
theorem headB_back {t:ByteArray} {h:Hk} (e:headB t=some h):headOf h=t∧HeadOk h∧h.f4=[]:=by
 unfold headB at e
 split at e
 ·rename_i hc
  obtain ⟨h1,h2,h3⟩:=hc
  rcases hp:sideB (cutA (headT t) [32,43]) with _|p
  ·rw [hp] at e;cases e
  ·rcases hq:sideB (cutC (headT t) [32,43]) with _|q
   ·rw [hp,hq] at e;cases e
   ·rw [hp,hq] at e
    obtain rfl:=Option.some.inj e
    obtain ⟨p1,p2,p3,p4,p5⟩:=sideB_back hp
    obtain ⟨q1,q2,q3,q4,q5⟩:=sideB_back hq
    refine ⟨?_,⟨p2,p3,p4,p5,q2,q3,q4,q5⟩,rfl⟩
    have hb:=cutB_back h3
    have e1:t.data.toList=[64,64,32,45]++(preB t [64,64,32,45]).data.toList:=by
     unfold Lib.hasPrefix at h1
     obtain ⟨r,hr⟩:=List.isPrefixOf_iff_prefix.1 h1
     show _=_++Lib.trimPrefix t.data.toList [64,64,32,45]
     rw [← hr,(pre_at _ _).2]
    have e2:(preB t [64,64,32,45]).data.toList=(headT t).data.toList++[32,64,64,10]:=by
     unfold Lib.hasSuffix at h2
     obtain ⟨r,hr⟩:=List.isSuffixOf_iff_suffix.1 h2
     show _=Lib.trimSuffix (preB t [64,64,32,45]).data.toList [32,64,64,10]++_
     rw [← hr,(suf_at _ _).2]
    apply ByteArray.ext
    apply Array.toList_inj.1
    rw [headOf_bytes,e1,e2,hb,← p1,← q1]
 ·cases e
theorem okL_snoc:∀ (L:List ByteArray) (came:Bool) (t:ByteArray),okL came (L++[t])=(okL came L && decide (0<t.size∧(bt t 0=32∨bt t 0=43∨bt t 0=45)∧¬ (bt t 0=45∧(if L=[] then came else wentB L)=true)))
 | [],came,t=>by simp [okL]
 | s :: L,came,t=>by
  rw [List.cons_append,okL,okL,okL_snoc L _ t,Bool.and_assoc]
  congr 3
  have e:(if L=[] then decide (bt s 0=43) else wentB L)=(if s :: L=[] then came else wentB (s :: L)):=by
   rcases L with _|⟨u,r⟩
   ·rw [if_pos rfl,if_neg (by simp)];exact (went_snoc [] s).symm
   ·rw [if_neg (by simp),if_neg (by simp)];unfold wentB;rw [List.getLast?_cons_cons]
  rw [e]
theorem manyL_snoc (z:Int):∀ (L:List ByteArray) (t:ByteArray),manyL z (L++[t])=manyL z L+(if 0<t.size∧(bt t 0=32∨bt t 0=z) then 1 else 0)
 | [],t=>by simp [manyL]
 | s :: L,t=>by rw [List.cons_append,manyL,manyL,manyL_snoc z L t,Nat.add_assoc]
theorem bodyT_append:∀ (a b:List ByteArray),bodyT (a++b)=bodyT a++bodyT b
 | [],b=>rfl
 | s :: a,b=>by rw [List.cons_append,bodyT,bodyT,bodyT_append a b,List.append_assoc]
theorem toldL_snoc (l:List Hk) (y:Hk):toldL (l++[y])=toldL l++(headOf y :: bodyT y.f4):=by
 unfold toldL;rw [List.flatMap_append];simp [toldH]
theorem canH_of {x:Hk} (h:HeadOk x) (hk:okL false x.f4=true) (e1:x.f1=manyL 45 x.f4) (e3:x.f3=manyL 43 x.f4) (hn:∀ s ∈ x.f4,noNl s=true):canH x=true:=by
 unfold canH
 rw [Bool.and_eq_true,Bool.and_eq_true,List.all_eq_true]
 exact ⟨hn,decide_eq_true ⟨hk,h.a0,h.c0,e1,e3⟩,decide_eq_true ⟨h.a1,h.b1,h.c1,h.d1⟩⟩
structure LastOk (st:PS) (l:List Hk) (y:Hk):Prop where
 at_:st.l=l++[y]
 can:∀ x ∈ l,canH x=true
 head:HeadOk y
 ok:okL false y.f4=true
 nl:∀ s ∈ y.f4,noNl s=true
 an:y.f1=manyL 45 y.f4+st.an
 bn:y.f3=manyL 43 y.f4+st.bn
 open_:st.bare=false→∃ d s,y.f4=d++[s++(⟨#[10]⟩:ByteArray)]∧0<s.size∧¬ (10:UInt8) ∈ s.data.toList
structure Back (C:List ByteArray) (st:PS):Prop where
 a0:0≤st.an
 b0:0≤st.bn
 text:bytesL (toldL st.l)=bytesL C
 last:(st.l=[]∧st.an=0∧st.bn=0∧st.bare=true)∨∃ l y,LastOk st l y
theorem Back.all {C:List ByteArray} {st:PS} (h:Back C st) (ha:st.an=0) (hb:st.bn=0):∀ x ∈ st.l,canH x=true:=by
 intro x hx
 rcases h.last with ⟨e,_⟩|⟨l,y,k⟩
 ·rw [e] at hx;cases hx
 ·rw [k.at_] at hx
  rcases List.mem_append.1 hx with hx|hx
  ·exact k.can x hx
  ·obtain rfl:=List.mem_singleton.1 hx
   exact canH_of k.head k.ok (by rw [k.an,ha,Int.add_zero]) (by rw [k.bn,hb,Int.add_zero]) k.nl
theorem not_closed {s:ByteArray} (h0:0<s.size) (h:¬ (10:UInt8) ∈ s.data.toList):closedL s.data.toList≠true:=by
 have hlen:s.data.toList.length=s.size:=rfl
 intro hc
 unfold closedL at hc
 rw [Bool.or_eq_true,decide_eq_true_eq,beq_iff_eq] at hc
 rcases hc with e|e
 ·rw [e] at hlen;simp at hlen;omega
 ·exact h (List.mem_of_getLast? e)
theorem noNl_of {s:ByteArray} (h:¬ (10:UInt8) ∈ s.data.toList):noNl s=true:=decide_eq_true (fun hm=>h (List.dropLast_subset _ hm))
theorem line_open {t:ByteArray} (hn:noNl t=true) (h0:0<t.size) (hc:closedL t.data.toList=true) (h1:bt t 0≠10):∃ s:ByteArray,t=s++(⟨#[10]⟩:ByteArray)∧0<s.size∧¬ (10:UInt8) ∈ s.data.toList:=by
 have hlen:t.data.toList.length=t.size:=rfl
 have hne:t.data.toList≠[]:=by intro e;rw [e] at hlen;simp at hlen;omega
 have hd:=List.dropLast_concat_getLast hne
 have hl:t.data.toList.getLast hne=10:=by
  unfold closedL at hc
  rw [Bool.or_eq_true,decide_eq_true_eq,beq_iff_eq,List.getLast?_eq_some_getLast hne] at hc
  rcases hc with hc|hc
  ·exact absurd hc hne
  ·exact Option.some.inj hc
 rw [hl] at hd
 refine ⟨⟨t.data.toList.dropLast.toArray⟩,?_,?_,of_decide_eq_true hn⟩
 ·apply ByteArray.ext
  apply Array.toList_inj.1
  rw [ByteArray.data_append,Array.toList_append]
  exact hd.symm
 ·show 0<(t.data.toList.dropLast.toArray).size
  rw [List.size_toArray]
  rcases hx:t.data.toList.dropLast with _|⟨c,r⟩
  ·rw [hx] at hd
   exact absurd (bt_head t 10 [] hd.symm) h1
  ·simp
theorem Back.step {C:List ByteArray} {st st':PS} {t:ByteArray} (h:Back C st) (hn:noNl t=true) (h0:0<t.size) (e:stepP st t=some st'):Back (C++[t]) st':=by
 obtain ⟨L,an,bn,bare⟩:=st
 unfold stepP at e
 split at e
 ·rename_i hc
  obtain ⟨rfl,hb⟩:=hc
  simp only at hb
  subst hb
  rcases h.last with ⟨_,_,_,e4⟩|⟨l,y,k⟩
  ·cases e4
  ·obtain ⟨d,s,hy,hs0,hs10⟩:=k.open_ rfl
   have hL:L=l++[y]:=k.at_
   subst hL
   have hst:=open_step l y d s an bn hy
   unfold stepP at hst
   rw [if_pos ⟨rfl,rfl⟩] at hst
   have e3:=hst.symm.trans e
   obtain rfl:=Option.some.inj e3
   have hb0:bt (s++(⟨#[10]⟩:ByteArray)) 0=bt s 0:=bt_app _ _ hs0
   have hz:0<(s++(⟨#[10]⟩:ByteArray)).size:=by rw [ByteArray.size_append];omega
   have hok:=k.ok
   have han:=k.an
   have hbn:=k.bn
   rw [hy] at hok han hbn
   refine ⟨h.a0,h.b0,?_,.inr ⟨l,{ y with f4:=d++[s] },rfl,k.can,⟨k.head.a0,k.head.a1,k.head.b0,k.head.b1,k.head.c0,k.head.c1,k.head.d0,k.head.d1⟩,?_,?_,?_,?_,fun hb=>by cases hb⟩⟩
   ·have ht:=h.text
    simp only at ht ⊢
    rw [bytesL_append,← ht,toldL_snoc,toldL_snoc,hy,bodyT_append,bodyT_append]
    rw [show bodyT [s++(⟨#[10]⟩:ByteArray)]=[s++(⟨#[10]⟩:ByteArray)] by rw [bodyT,if_pos (by rw [ByteArray.data_append,Array.toList_append,closedL];simp)];rfl]
    rw [show bodyT [s]=[s++(⟨#[10]⟩:ByteArray),openB] by rw [bodyT,if_neg (not_closed hs0 hs10)];rfl]
    simp only [bytesL_append,bytesL_cons,List.append_assoc,List.cons_append,List.nil_append]
    rfl
   ·rw [okL_snoc,hb0] at hok
    simp only
    rw [okL_snoc]
    simp only [hz,hs0,true_and] at hok ⊢
    exact hok
   ·intro u hu
    rcases List.mem_append.1 hu with hu|hu
    ·exact k.nl u (by rw [hy];exact List.mem_append_left _ hu)
    ·obtain rfl:=List.mem_singleton.1 hu;exact noNl_of hs10
   ·simp only
    rw [manyL_snoc,hb0] at han
    rw [manyL_snoc]
    simp only [hz,hs0,true_and] at han ⊢
    exact han
   ·simp only
    rw [manyL_snoc,hb0] at hbn
    rw [manyL_snoc]
    simp only [hz,hs0,true_and] at hbn ⊢
    exact hbn
 ·rename_i hno
  simp only at e
  split at e
  ·rename_i hz
   obtain ⟨rfl,rfl⟩:=hz
   rcases hh:headB t with _|x
   ·rw [hh] at e;cases e
   ·rw [hh,Option.map_some] at e
    obtain rfl:=Option.some.inj e
    obtain ⟨x1,x2,x3⟩:=headB_back hh
    refine ⟨x2.b0,x2.d0,?_,.inr ⟨L,x,rfl,h.all rfl rfl,x2,by rw [x3];rfl,(fun s hs=>by rw [x3] at hs;cases hs),by simp [x3,manyL],by simp [x3,manyL],fun hb=>by cases hb⟩⟩
    have ht:=h.text
    simp only at ht ⊢
    rw [bytesL_append,← ht,toldL_snoc,x3,x1,bytesL_append]
    rfl
  ·rename_i hz
   rcases h.last with ⟨e1,e2,e3,_⟩|⟨l,y,k⟩
   ·exact absurd ⟨e2,e3⟩ hz
   ·have hL:L=l++[y]:=k.at_
    subst hL
    rw [last_at] at e
    simp only at e
    split at e
    ·rename_i hr
     obtain ⟨a,b,hs,hcl,ha,hb⟩:=lineR_some hr
     rw [hs,Option.map_some] at e
     obtain rfl:=Option.some.inj e
     have ead:addL (l++[y]) ((l++[y]).length - 1) t=l++[{ y with f4:=y.f4++[t] }]:=by
      unfold addL;rw [last_at];simp only;rw [set_at]
     have hsg:(bt t 0=32∧an=a+1∧bn=b+1)∨(bt t 0=45∧wentB y.f4=false∧an=a+1∧bn=b)∨(bt t 0=43∧an=a∧bn=b+1):=by
      unfold stepL at hs
      split at hs
      ·rename_i h1
       have:=Option.some.inj hs
       simp only [Prod.mk.injEq] at this
       exact .inl ⟨h1,by omega,by omega⟩
      ·split at hs
       ·rename_i h1
        split at hs
        ·cases hs
        ·rename_i h2
         have:=Option.some.inj hs
         simp only [Prod.mk.injEq] at this
         exact .inr (.inl ⟨h1,Bool.eq_false_iff.2 h2,by omega,by omega⟩)
       ·split at hs
        ·rename_i h1
         have:=Option.some.inj hs
         simp only [Prod.mk.injEq] at this
         exact .inr (.inr ⟨h1,by omega,by omega⟩)
        ·cases hs
     have han:=k.an
     have hbn:=k.bn
     simp only at han hbn
     refine ⟨ha,hb,?_,.inr ⟨l,{ y with f4:=y.f4++[t] },ead,k.can,⟨k.head.a0,k.head.a1,k.head.b0,k.head.b1,k.head.c0,k.head.c1,k.head.d0,k.head.d1⟩,?_,?_,?_,?_,fun _=>?_⟩⟩
     ·have ht:=h.text
      simp only at ht ⊢
      rw [bytesL_append,← ht,ead,toldL_snoc,toldL_snoc,bodyT_append]
      rw [show bodyT [t]=[t] by rw [bodyT,if_pos hcl];rfl]
      simp only [bytesL_append,bytesL_cons,List.append_assoc]
      rfl
     ·simp only
      rw [okL_snoc,k.ok,Bool.true_and,decide_eq_true_eq]
      refine ⟨h0,by omega,fun hw=>?_⟩
      obtain ⟨w1,w2⟩:=hw
      rcases hsg with ⟨g,_⟩|⟨_,g,_⟩|⟨g,_⟩
      ·omega
      ·split at w2
       ·cases w2
       ·rw [g] at w2;cases w2
      ·omega
     ·intro u hu
      rcases List.mem_append.1 hu with hu|hu
      ·exact k.nl u hu
      ·obtain rfl:=List.mem_singleton.1 hu;exact hn
     ·simp only
      rw [manyL_snoc]
      simp only [h0,true_and]
      rcases hsg with ⟨g,_⟩|⟨g,_⟩|⟨g,_⟩<;>rw [g]<;>simp<;>omega
     ·simp only
      rw [manyL_snoc]
      simp only [h0,true_and]
      rcases hsg with ⟨g,_⟩|⟨g,_⟩|⟨g,_⟩<;>rw [g]<;>simp<;>omega
     ·obtain ⟨s,hs1,hs2,hs3⟩:=line_open hn h0 hcl (by omega)
      exact ⟨y.f4,s,by rw [hs1],hs2,hs3⟩
    ·cases e
theorem lns_noNl (l:List UInt8):∀ x ∈ lns l,¬ (10:UInt8) ∈ x.dropLast:=by
 induction l with
 | nil=>intro x hx;simp [lns] at hx
 | cons b l ih =>
  by_cases hb:b=10
  ·subst hb
   rw [lns_nl]
   intro x hx
   rcases List.mem_cons.1 hx with rfl|hx
   ·simp
   ·exact ih x hx
  ·rw [lns_no hb]
   have hne:=lns_ne l
   rcases hl:lns l with _|⟨y,ys⟩
   ·intro x hx
    simp only [glue,List.mem_singleton] at hx
    subst hx;simp
   ·rw [hl] at ih hne
    intro x hx
    rcases List.mem_cons.1 hx with rfl|hx
    ·rw [List.singleton_append,List.dropLast_cons_of_ne_nil (hne y List.mem_cons_self)]
     intro hm
     rcases List.mem_cons.1 hm with e|hm
     ·exact hb e.symm
     ·exact ih y List.mem_cons_self hm
    ·exact ih x (List.mem_cons_of_mem _ hx)
theorem linesB_ok (s:ByteArray):∀ t ∈ linesB s,noNl t=true∧0<t.size:=by
 intro t ht
 refine ⟨?_,(linesB_mem ht).1⟩
 rw [linesB_lns] at ht
 obtain ⟨x,hx,rfl⟩:=List.mem_map.1 ht
 exact decide_eq_true (lns_noNl _ x hx)
theorem linesB_bytes (s:ByteArray):bytesL (linesB s)=s.data.toList:=by
 rw [linesB_lns]
 unfold bytesL
 rw [List.flatMap_map]
 have e:(fun x:List UInt8=>(bs x).data.toList)=id:=rfl
 rw [show (List.flatMap (fun x:List UInt8=>(bs x).data.toList) (lns s.data.toList))=List.flatMap id (lns s.data.toList) from rfl,List.flatMap_id]
 exact lns_flatten _
end Go.Proofs.YtamojbfmphainaaDoor.Pr
-- shrunk
/-
The chapter's example of layer 6, in plain Lean.
-/
namespace Go.Proofs.YtamojbfmphainaaDoor.Pr
open Go.RowKit Go.Proofs.YtamojbfmphainaaDoorW.PrintWords Go.Proofs.YtamojbfmphainaaDoorW.PrintLast Go.Proofs.YtamojbfmphainaaDoorW.PrintMore
def exU:S41:=⟨0,1,0,1,[(⟨#[45,97,10]⟩:ByteArray),(⟨#[43,98]⟩:ByteArray)]⟩
def exUT:ByteArray:=⟨#[64,64,32,45,49,44,49,32,43,49,44,49,32,64,64,10,45,97,10,43,98,10,92,32,78,111,32,110,101,119,108,105,110,101,32,97,116,32,101,110,100,32,111,102,32,102,105,108,101,10]⟩
theorem itoaB_one:itoaB 1=(⟨#[49]⟩:ByteArray):=by
 unfold itoaB
 rw [show (1:Int)=((1:Nat):Int) from rfl,Lib.itoa_nonneg,Lib.decDigits_one (by decide)]
 rfl
theorem can_ex:canH exU=true:=by decide +kernel
theorem from_ex:fromB 0 1=(⟨#[49,44,49]⟩:ByteArray):=by
 rw [fromB,show firstI 0 1=1 from rfl,itoaB_one];rfl
theorem head_ex:headOf exU=(⟨#[64,64,32,45,49,44,49,32,43,49,44,49,32,64,64,10]⟩:ByteArray):=by
 unfold headOf
 show _++fromB 0 1++_++fromB 0 1++_++_=_
 rw [from_ex]
 decide +kernel
theorem print_ex:printL canH [exU] ⟨#[]⟩=exUT:=by
 rw [printL,if_pos can_ex,head_ex]
 decide +kernel
theorem parse_x:parseU (⟨#[120]⟩:ByteArray)=([],1,3):=by
 rw [parseU,linesB_lns]
 kernel_rfl
theorem parse_ex:parseU exUT=([exU],0,0):=by
 rw [parseU,linesB_lns]
 kernel_rfl
end Go.Proofs.YtamojbfmphainaaDoor.Pr
-- shrunk
/-
Which lists of hunks layer 6 looks at, in plain Lean.
-/
namespace Go.Proofs.YtamojbfmphainaaDoor.Pr
open Go.RowKit Go.Proofs.YtamojbfmphainaaDoorW.PrintWords Go.Proofs.YtamojbfmphainaaDoorW.PrintLast Go.Proofs.YtamojbfmphainaaDoorW.PrintMore
theorem rdU_at {xs:List S41} {i:Nat} (h:i<xs.length):rd_T41 xs (i:Int)=xs[i]:=by
 unfold rd_T41;simp [List.getD,List.getElem?_eq_getElem h]
def FewH (h:S41):Prop:=h.f4.length≤30∧h.f0≤1048576∧h.f2≤1048576∧h.f1≤1048576∧h.f3≤1048576 ∧ -1048576≤h.f0 ∧ -1048576≤h.f2 ∧ -1048576≤h.f1 ∧ -1048576≤h.f3
instance (h:S41):Decidable (FewH h):=by unfold FewH;exact inferInstance
end Go.Proofs.YtamojbfmphainaaDoor.Pr
-- shrunk
-- written by a program of this session's (a turned copy of the kit's printer); Lean checks it
namespace Go.Proofs.YtamojbfmphainaaDoor.Pr
open Go.RowKit Go.Proofs.YtamojbfmphainaaDoorW.PrintWords Go.Proofs.YtamojbfmphainaaDoorW.PrintLast Go.Proofs.YtamojbfmphainaaDoorW.PrintMore
attribute [local go_sem] max2_int min2_int max_two min_two max_three min_three max_four min_four   -- for this text's walks alone

def r05_One.f (k:Nat) (a0_0:Int) (a0_1:Int) (a0_2:Int) (a0_3:Int) (l0_4:List ByteArray) (a1_0:Int) (a1_1:Int) (a1_2:Int) (a1_3:Int) (l1_4:List ByteArray):Option (Bool):=if a0_0=a1_0 then (if a0_1=a1_1 then (if a0_2=a1_2 then (if a0_3=a1_3 then ((r01_Texts.f k l0_4 l1_4).bind fun t145=>(some t145)) else (some false)) else (some false)) else (some false)) else (some false)
set_option maxHeartbeats 8000000 in
set_option maxRecDepth 100000 in
theorem r05_One.calls (k:Nat) (a0_0:Int) (a0_1:Int) (a0_2:Int) (a0_3:Int) (A0_4:Option Addr) (c0_4:Nat) (l0_4:List ByteArray) (a1_0:Int) (a1_1:Int) (a1_2:Int) (a1_3:Int) (A1_4:Option Addr) (c1_4:Nat) (l1_4:List ByteArray) (r:Bool) (w:World) (hr0_4:Kd.C Kd.string w A0_4 l0_4.length l0_4) (hc0_4:l0_4.length≤c0_4) (hr1_4:Kd.C Kd.string w A1_4 l1_4.length l1_4) (hc1_4:l1_4.length≤c1_4) (h:r05_One.f k a0_0 a0_1 a0_2 a0_3 l0_4 a1_0 a1_1 a1_2 a1_3 l1_4=some r) :
  Calls Tryd.prog 38 #[.agg #[.int .i64 a0_0,.int .i64 a0_1,.int .i64 a0_2,.int .i64 a0_3,.slice A0_4 l0_4.length c0_4],.agg #[.int .i64 a1_0,.int .i64 a1_1,.int .i64 a1_2,.int .i64 a1_3,.slice A1_4 l1_4.length c1_4]] w fun e w'=>e=.returned (.bool r)∧Below w.heap.size w w':=by
 have hu41:=Tryd.underlying41
 have HR0_4:=Aside0.mk hr0_4
 have HC0_4:=Aside0.mk hc0_4
 clear hr0_4 hc0_4
 have HR1_4:=Aside0.mk hr1_4
 have HC1_4:=Aside0.mk hc1_4
 clear hr1_4 hc1_4
 have HB:=Aside0.mk (Below.refl w.heap.size w)
 have H:(if a0_0=a1_0 then (if a0_1=a1_1 then (if a0_2=a1_2 then (if a0_3=a1_3 then ((r01_Texts.f k l0_4 l1_4).bind fun t145=>(some t145)) else (some false)) else (some false)) else (some false)) else (some false))=some r:=h
 clear h
 by_cases c3:a0_0=a1_0
 ·rw [if_pos c3] at H
  have c3b0:(a0_0 == a1_0)=true:=beq_iff_eq.mpr c3
  have c3b1:(a0_0 != a1_0)=false:=bne_eq_false_iff_eq.mpr c3
  clear c3
  by_cases c4:a0_1=a1_1
  ·rw [if_pos c4] at H
   have c4b0:(a0_1 == a1_1)=true:=beq_iff_eq.mpr c4
   have c4b1:(a0_1 != a1_1)=false:=bne_eq_false_iff_eq.mpr c4
   clear c4
   by_cases c5:a0_2=a1_2
   ·rw [if_pos c5] at H
    have c5b0:(a0_2 == a1_2)=true:=beq_iff_eq.mpr c5
    have c5b1:(a0_2 != a1_2)=false:=bne_eq_false_iff_eq.mpr c5
    clear c5
    by_cases c6:a0_3=a1_3
    ·rw [if_pos c6] at H
     have c6b0:(a0_3 == a1_3)=true:=beq_iff_eq.mpr c6
     have c6b1:(a0_3 != a1_3)=false:=bne_eq_false_iff_eq.mpr c6
     clear c6
     replace H:=Option.bind_eq_some_iff.mp H
     obtain ⟨t145,A70,H⟩:=H
     replace H:(some t145)=some r:=H
     have A7:=Aside0.mk A70
     clear A70
     obtain rfl:=Option.some.inj H
     go_enter Tryd.func38,Tryd.ntmps38
     go_wp2_with (first|((with_reducible refine gate_dst (N:=2) rfl ?_);refine box_event ?hg (N:=2) ?hd (cs:=#[.int .i64 a0_0,.int .i64 a0_1,.int .i64 a0_2,.int .i64 a0_3,.slice A0_4 l0_4.length c0_4]) (t:=41) ?hr ?_;(case hd=>rfl);(case hg=>rfl);(case hr=>first|(go_simp;done)|(go_simp;rfl));intro gb143 hg w8 hbox hb;have n0_:=Aside0.mk (below_step (by repeat (first|(with_reducible first|exact HB.out|apply below_alloc|apply pw_below_drewN|apply below_drew1)|exact HB.out)) hb);have n1_:=Aside0.mk (hbox);have n2_:=Aside0.mk ((by rw [hg];exact (below_size (by repeat (first|(with_reducible first|exact HB.out|apply below_alloc|apply pw_below_drewN|apply below_drew1)|exact HB.out))):w.heap.size≤gb143));have n3_:=Aside0.mk ((by rw [hg];exact (below_size (by repeat (first|(with_reducible first|exact HB.out|apply below_alloc|apply pw_below_drewN|apply below_drew1)|exact HB.out))):w.heap.size≤gb143));clear HB;have HB:=n0_;have BK143:=n1_;have GW143:=n2_;have GE143:=n3_;clear n0_ n1_ n2_ n3_;clear hb hbox hg)|((with_reducible refine gate_dst (N:=3) rfl ?_);refine box_event ?hg (N:=3) ?hd (cs:=#[.int .i64 a1_0,.int .i64 a1_1,.int .i64 a1_2,.int .i64 a1_3,.slice A1_4 l1_4.length c1_4]) (t:=41) ?hr ?_;(case hd=>rfl);(case hg=>rfl);(case hr=>first|(go_simp;done)|(go_simp;rfl));intro gb144 hg w9 hbox hb;have n0_:=Aside0.mk (blk_below (g:=gb143) (o:=.cells #[.int .i64 a0_0,.int .i64 a0_1,.int .i64 a0_2,.int .i64 a0_3,.slice A0_4 l0_4.length c0_4] 41 (0,0)) (by (with_reducible repeat (first|refine blk_drewN ?_ _|refine blk_drew ?_|refine blk_alloc ?_ _));exact BK143.out) hb);have n1_:=Aside0.mk (below_step (by repeat (first|(with_reducible first|exact HB.out|apply below_alloc|apply pw_below_drewN|apply below_drew1|refine below_set ?_ GE143.out)|exact HB.out)) hb);have n2_:=Aside0.mk (hbox);have n3_:=Aside0.mk ((by rw [hg];exact (below_size (by repeat (first|(with_reducible first|exact HB.out|apply below_alloc|apply pw_below_drewN|apply below_drew1|refine below_set ?_ GE143.out)|exact HB.out))):w.heap.size≤gb144));have n4_:=Aside0.mk ((by rw [hg];exact (below_size (by repeat (first|(with_reducible first|exact HB.out|apply below_alloc|apply pw_below_drewN|apply below_drew1|refine below_set ?_ GE143.out)|exact HB.out))):w.heap.size≤gb144));have n5_:=Aside0.mk ((by rw [hg];exact Nat.ne_of_lt (blk_lt (g:=gb143) (o:=.cells #[.int .i64 a0_0,.int .i64 a0_1,.int .i64 a0_2,.int .i64 a0_3,.slice A0_4 l0_4.length c0_4] 41 (0,0)) (by (with_reducible repeat (first|refine blk_drewN ?_ _|refine blk_drew ?_|refine blk_alloc ?_ _));exact BK143.out)):gb143≠gb144));have n6_:=Aside0.mk ((by rw [hg];exact Nat.ne_of_gt (blk_lt (g:=gb143) (o:=.cells #[.int .i64 a0_0,.int .i64 a0_1,.int .i64 a0_2,.int .i64 a0_3,.slice A0_4 l0_4.length c0_4] 41 (0,0)) (by (with_reducible repeat (first|refine blk_drewN ?_ _|refine blk_drew ?_|refine blk_alloc ?_ _));exact BK143.out)):gb144≠gb143));clear BK143;clear HB;have BK143:=n0_;have HB:=n1_;have BK144:=n2_;have GW144:=n3_;have GE144:=n4_;have NB143_144:=n5_;have NB144_143:=n6_;clear n0_ n1_ n2_ n3_ n4_ n5_ n6_;clear hb hbox hg;have hnb10:=NB143_144.out;have hnc10:=NB144_143.out;have hcz11_0:w9.cell? ⟨gb143,0,none⟩=some (.int .i64 a0_0):=(blk_cell BK143.out 0).trans rfl;have hcz11_1:w9.cell? ⟨gb143,1,none⟩=some (.int .i64 a0_1):=(blk_cell BK143.out 1).trans rfl;have hcz11_2:w9.cell? ⟨gb143,2,none⟩=some (.int .i64 a0_2):=(blk_cell BK143.out 2).trans rfl;have hcz11_3:w9.cell? ⟨gb143,3,none⟩=some (.int .i64 a0_3):=(blk_cell BK143.out 3).trans rfl;have hcz11_4:w9.cell? ⟨gb143,4,none⟩=some (.slice A0_4 l0_4.length c0_4):=(blk_cell BK143.out 4).trans rfl;have hfz11_0:=blk_frozen BK143.out 0;have hfz11_1:=blk_frozen BK143.out 1;have hfz11_2:=blk_frozen BK143.out 2;have hfz11_3:=blk_frozen BK143.out 3;have hfz11_4:=blk_frozen BK143.out 4;have hcz12_0:w9.cell? ⟨gb144,0,none⟩=some (.int .i64 a1_0):=(blk_cell BK144.out 0).trans rfl;have hcz12_1:w9.cell? ⟨gb144,1,none⟩=some (.int .i64 a1_1):=(blk_cell BK144.out 1).trans rfl;have hcz12_2:w9.cell? ⟨gb144,2,none⟩=some (.int .i64 a1_2):=(blk_cell BK144.out 2).trans rfl;have hcz12_3:w9.cell? ⟨gb144,3,none⟩=some (.int .i64 a1_3):=(blk_cell BK144.out 3).trans rfl;have hcz12_4:w9.cell? ⟨gb144,4,none⟩=some (.slice A1_4 l1_4.length c1_4):=(blk_cell BK144.out 4).trans rfl;have hfz12_0:=blk_frozen BK144.out 0;have hfz12_1:=blk_frozen BK144.out 1;have hfz12_2:=blk_frozen BK144.out 2;have hfz12_3:=blk_frozen BK144.out 3;have hfz12_4:=blk_frozen BK144.out 4)|(go_at_call 50;(with_reducible refine (r01_Texts.calls k _ _ l0_4 _ _ l1_4 t145 _ ?side1 ?side2 ?side3 ?side4 A7.out).mono ?_);(case side1=>repeat (first|exact (Kd.C_below HR0_4.out HB.out)|(with_reducible refine Kd.C_alloc ?_ _)|(with_reducible refine Kd.C_drewN ?_ _)|(with_reducible refine Kd.C_drew ?_)));(case side2=>exact HC0_4.out);(case side3=>repeat (first|exact (Kd.C_below HR1_4.out HB.out)|(with_reducible refine Kd.C_alloc ?_ _)|(with_reducible refine Kd.C_drewN ?_ _)|(with_reducible refine Kd.C_drew ?_)));(case side4=>exact HC1_4.out);rintro e w' ⟨rfl,⟨nd,rfl⟩⟩))
     go_ret
     exact ⟨by first|rfl|(simp [errW_none,errW_some]<;>rfl)|(simp [*,errW_none,errW_some]<;>rfl),by repeat (first|(with_reducible first|exact HB.out|apply below_alloc|apply pw_below_drewN|apply below_drew1|refine below_set ?_ GE143.out|refine below_set ?_ GE144.out)|exact HB.out)⟩
    ·rw [if_neg c6] at H
     have c6b0:(a0_3 == a1_3)=false:=beq_eq_false_iff_ne.mpr c6
     have c6b1:(a0_3 != a1_3)=true:=bne_iff_ne.mpr c6
     obtain rfl:=Option.some.inj H
     go_enter Tryd.func38,Tryd.ntmps38
     go_wp2_with (first|((with_reducible refine gate_dst (N:=2) rfl ?_);refine box_event ?hg (N:=2) ?hd (cs:=#[.int .i64 a0_0,.int .i64 a0_1,.int .i64 a0_2,.int .i64 a0_3,.slice A0_4 l0_4.length c0_4]) (t:=41) ?hr ?_;(case hd=>rfl);(case hg=>rfl);(case hr=>first|(go_simp;done)|(go_simp;rfl));intro gb143 hg w13 hbox hb;have n0_:=Aside0.mk (below_step (by repeat (first|(with_reducible first|exact HB.out|apply below_alloc|apply pw_below_drewN|apply below_drew1)|exact HB.out)) hb);have n1_:=Aside0.mk (hbox);have n2_:=Aside0.mk ((by rw [hg];exact (below_size (by repeat (first|(with_reducible first|exact HB.out|apply below_alloc|apply pw_below_drewN|apply below_drew1)|exact HB.out))):w.heap.size≤gb143));have n3_:=Aside0.mk ((by rw [hg];exact (below_size (by repeat (first|(with_reducible first|exact HB.out|apply below_alloc|apply pw_below_drewN|apply below_drew1)|exact HB.out))):w.heap.size≤gb143));clear HB;have HB:=n0_;have BK143:=n1_;have GW143:=n2_;have GE143:=n3_;clear n0_ n1_ n2_ n3_;clear hb hbox hg)|((with_reducible refine gate_dst (N:=3) rfl ?_);refine box_event ?hg (N:=3) ?hd (cs:=#[.int .i64 a1_0,.int .i64 a1_1,.int .i64 a1_2,.int .i64 a1_3,.slice A1_4 l1_4.length c1_4]) (t:=41) ?hr ?_;(case hd=>rfl);(case hg=>rfl);(case hr=>first|(go_simp;done)|(go_simp;rfl));intro gb144 hg w14 hbox hb;have n0_:=Aside0.mk (blk_below (g:=gb143) (o:=.cells #[.int .i64 a0_0,.int .i64 a0_1,.int .i64 a0_2,.int .i64 a0_3,.slice A0_4 l0_4.length c0_4] 41 (0,0)) (by (with_reducible repeat (first|refine blk_drewN ?_ _|refine blk_drew ?_|refine blk_alloc ?_ _));exact BK143.out) hb);have n1_:=Aside0.mk (below_step (by repeat (first|(with_reducible first|exact HB.out|apply below_alloc|apply pw_below_drewN|apply below_drew1|refine below_set ?_ GE143.out)|exact HB.out)) hb);have n2_:=Aside0.mk (hbox);have n3_:=Aside0.mk ((by rw [hg];exact (below_size (by repeat (first|(with_reducible first|exact HB.out|apply below_alloc|apply pw_below_drewN|apply below_drew1|refine below_set ?_ GE143.out)|exact HB.out))):w.heap.size≤gb144));have n4_:=Aside0.mk ((by rw [hg];exact (below_size (by repeat (first|(with_reducible first|exact HB.out|apply below_alloc|apply pw_below_drewN|apply below_drew1|refine below_set ?_ GE143.out)|exact HB.out))):w.heap.size≤gb144));have n5_:=Aside0.mk ((by rw [hg];exact Nat.ne_of_lt (blk_lt (g:=gb143) (o:=.cells #[.int .i64 a0_0,.int .i64 a0_1,.int .i64 a0_2,.int .i64 a0_3,.slice A0_4 l0_4.length c0_4] 41 (0,0)) (by (with_reducible repeat (first|refine blk_drewN ?_ _|refine blk_drew ?_|refine blk_alloc ?_ _));exact BK143.out)):gb143≠gb144));have n6_:=Aside0.mk ((by rw [hg];exact Nat.ne_of_gt (blk_lt (g:=gb143) (o:=.cells #[.int .i64 a0_0,.int .i64 a0_1,.int .i64 a0_2,.int .i64 a0_3,.slice A0_4 l0_4.length c0_4] 41 (0,0)) (by (with_reducible repeat (first|refine blk_drewN ?_ _|refine blk_drew ?_|refine blk_alloc ?_ _));exact BK143.out)):gb144≠gb143));clear BK143;clear HB;have BK143:=n0_;have HB:=n1_;have BK144:=n2_;have GW144:=n3_;have GE144:=n4_;have NB143_144:=n5_;have NB144_143:=n6_;clear n0_ n1_ n2_ n3_ n4_ n5_ n6_;clear hb hbox hg;have hnb15:=NB143_144.out;have hnc15:=NB144_143.out;have hcz16_0:w14.cell? ⟨gb143,0,none⟩=some (.int .i64 a0_0):=(blk_cell BK143.out 0).trans rfl;have hcz16_1:w14.cell? ⟨gb143,1,none⟩=some (.int .i64 a0_1):=(blk_cell BK143.out 1).trans rfl;have hcz16_2:w14.cell? ⟨gb143,2,none⟩=some (.int .i64 a0_2):=(blk_cell BK143.out 2).trans rfl;have hcz16_3:w14.cell? ⟨gb143,3,none⟩=some (.int .i64 a0_3):=(blk_cell BK143.out 3).trans rfl;have hcz16_4:w14.cell? ⟨gb143,4,none⟩=some (.slice A0_4 l0_4.length c0_4):=(blk_cell BK143.out 4).trans rfl;have hfz16_0:=blk_frozen BK143.out 0;have hfz16_1:=blk_frozen BK143.out 1;have hfz16_2:=blk_frozen BK143.out 2;have hfz16_3:=blk_frozen BK143.out 3;have hfz16_4:=blk_frozen BK143.out 4;have hcz17_0:w14.cell? ⟨gb144,0,none⟩=some (.int .i64 a1_0):=(blk_cell BK144.out 0).trans rfl;have hcz17_1:w14.cell? ⟨gb144,1,none⟩=some (.int .i64 a1_1):=(blk_cell BK144.out 1).trans rfl;have hcz17_2:w14.cell? ⟨gb144,2,none⟩=some (.int .i64 a1_2):=(blk_cell BK144.out 2).trans rfl;have hcz17_3:w14.cell? ⟨gb144,3,none⟩=some (.int .i64 a1_3):=(blk_cell BK144.out 3).trans rfl;have hcz17_4:w14.cell? ⟨gb144,4,none⟩=some (.slice A1_4 l1_4.length c1_4):=(blk_cell BK144.out 4).trans rfl;have hfz17_0:=blk_frozen BK144.out 0;have hfz17_1:=blk_frozen BK144.out 1;have hfz17_2:=blk_frozen BK144.out 2;have hfz17_3:=blk_frozen BK144.out 3;have hfz17_4:=blk_frozen BK144.out 4))
     go_ret
     exact ⟨by first|rfl|(simp [errW_none,errW_some]<;>rfl)|(simp [*,errW_none,errW_some]<;>rfl),by repeat (first|(with_reducible first|exact HB.out|apply below_alloc|apply pw_below_drewN|apply below_drew1|refine below_set ?_ GE143.out|refine below_set ?_ GE144.out)|exact HB.out)⟩
   ·rw [if_neg c5] at H
    have c5b0:(a0_2 == a1_2)=false:=beq_eq_false_iff_ne.mpr c5
    have c5b1:(a0_2 != a1_2)=true:=bne_iff_ne.mpr c5
    obtain rfl:=Option.some.inj H
    go_enter Tryd.func38,Tryd.ntmps38
    go_wp2_with (first|((with_reducible refine gate_dst (N:=2) rfl ?_);refine box_event ?hg (N:=2) ?hd (cs:=#[.int .i64 a0_0,.int .i64 a0_1,.int .i64 a0_2,.int .i64 a0_3,.slice A0_4 l0_4.length c0_4]) (t:=41) ?hr ?_;(case hd=>rfl);(case hg=>rfl);(case hr=>first|(go_simp;done)|(go_simp;rfl));intro gb143 hg w18 hbox hb;have n0_:=Aside0.mk (below_step (by repeat (first|(with_reducible first|exact HB.out|apply below_alloc|apply pw_below_drewN|apply below_drew1)|exact HB.out)) hb);have n1_:=Aside0.mk (hbox);have n2_:=Aside0.mk ((by rw [hg];exact (below_size (by repeat (first|(with_reducible first|exact HB.out|apply below_alloc|apply pw_below_drewN|apply below_drew1)|exact HB.out))):w.heap.size≤gb143));have n3_:=Aside0.mk ((by rw [hg];exact (below_size (by repeat (first|(with_reducible first|exact HB.out|apply below_alloc|apply pw_below_drewN|apply below_drew1)|exact HB.out))):w.heap.size≤gb143));clear HB;have HB:=n0_;have BK143:=n1_;have GW143:=n2_;have GE143:=n3_;clear n0_ n1_ n2_ n3_;clear hb hbox hg)|((with_reducible refine gate_dst (N:=3) rfl ?_);refine box_event ?hg (N:=3) ?hd (cs:=#[.int .i64 a1_0,.int .i64 a1_1,.int .i64 a1_2,.int .i64 a1_3,.slice A1_4 l1_4.length c1_4]) (t:=41) ?hr ?_;(case hd=>rfl);(case hg=>rfl);(case hr=>first|(go_simp;done)|(go_simp;rfl));intro gb144 hg w19 hbox hb;have n0_:=Aside0.mk (blk_below (g:=gb143) (o:=.cells #[.int .i64 a0_0,.int .i64 a0_1,.int .i64 a0_2,.int .i64 a0_3,.slice A0_4 l0_4.length c0_4] 41 (0,0)) (by (with_reducible repeat (first|refine blk_drewN ?_ _|refine blk_drew ?_|refine blk_alloc ?_ _));exact BK143.out) hb);have n1_:=Aside0.mk (below_step (by repeat (first|(with_reducible first|exact HB.out|apply below_alloc|apply pw_below_drewN|apply below_drew1|refine below_set ?_ GE143.out)|exact HB.out)) hb);have n2_:=Aside0.mk (hbox);have n3_:=Aside0.mk ((by rw [hg];exact (below_size (by repeat (first|(with_reducible first|exact HB.out|apply below_alloc|apply pw_below_drewN|apply below_drew1|refine below_set ?_ GE143.out)|exact HB.out))):w.heap.size≤gb144));have n4_:=Aside0.mk ((by rw [hg];exact (below_size (by repeat (first|(with_reducible first|exact HB.out|apply below_alloc|apply pw_below_drewN|apply below_drew1|refine below_set ?_ GE143.out)|exact HB.out))):w.heap.size≤gb144));have n5_:=Aside0.mk ((by rw [hg];exact Nat.ne_of_lt (blk_lt (g:=gb143) (o:=.cells #[.int .i64 a0_0,.int .i64 a0_1,.int .i64 a0_2,.int .i64 a0_3,.slice A0_4 l0_4.length c0_4] 41 (0,0)) (by (with_reducible repeat (first|refine blk_drewN ?_ _|refine blk_drew ?_|refine blk_alloc ?_ _));exact BK143.out)):gb143≠gb144));have n6_:=Aside0.mk ((by rw [hg];exact Nat.ne_of_gt (blk_lt (g:=gb143) (o:=.cells #[.int .i64 a0_0,.int .i64 a0_1,.int .i64 a0_2,.int .i64 a0_3,.slice A0_4 l0_4.length c0_4] 41 (0,0)) (by (with_reducible repeat (first|refine blk_drewN ?_ _|refine blk_drew ?_|refine blk_alloc ?_ _));exact BK143.out)):gb144≠gb143));clear BK143;clear HB;have BK143:=n0_;have HB:=n1_;have BK144:=n2_;have GW144:=n3_;have GE144:=n4_;have NB143_144:=n5_;have NB144_143:=n6_;clear n0_ n1_ n2_ n3_ n4_ n5_ n6_;clear hb hbox hg;have hnb20:=NB143_144.out;have hnc20:=NB144_143.out;have hcz21_0:w19.cell? ⟨gb143,0,none⟩=some (.int .i64 a0_0):=(blk_cell BK143.out 0).trans rfl;have hcz21_1:w19.cell? ⟨gb143,1,none⟩=some (.int .i64 a0_1):=(blk_cell BK143.out 1).trans rfl;have hcz21_2:w19.cell? ⟨gb143,2,none⟩=some (.int .i64 a0_2):=(blk_cell BK143.out 2).trans rfl;have hcz21_3:w19.cell? ⟨gb143,3,none⟩=some (.int .i64 a0_3):=(blk_cell BK143.out 3).trans rfl;have hcz21_4:w19.cell? ⟨gb143,4,none⟩=some (.slice A0_4 l0_4.length c0_4):=(blk_cell BK143.out 4).trans rfl;have hfz21_0:=blk_frozen BK143.out 0;have hfz21_1:=blk_frozen BK143.out 1;have hfz21_2:=blk_frozen BK143.out 2;have hfz21_3:=blk_frozen BK143.out 3;have hfz21_4:=blk_frozen BK143.out 4;have hcz22_0:w19.cell? ⟨gb144,0,none⟩=some (.int .i64 a1_0):=(blk_cell BK144.out 0).trans rfl;have hcz22_1:w19.cell? ⟨gb144,1,none⟩=some (.int .i64 a1_1):=(blk_cell BK144.out 1).trans rfl;have hcz22_2:w19.cell? ⟨gb144,2,none⟩=some (.int .i64 a1_2):=(blk_cell BK144.out 2).trans rfl;have hcz22_3:w19.cell? ⟨gb144,3,none⟩=some (.int .i64 a1_3):=(blk_cell BK144.out 3).trans rfl;have hcz22_4:w19.cell? ⟨gb144,4,none⟩=some (.slice A1_4 l1_4.length c1_4):=(blk_cell BK144.out 4).trans rfl;have hfz22_0:=blk_frozen BK144.out 0;have hfz22_1:=blk_frozen BK144.out 1;have hfz22_2:=blk_frozen BK144.out 2;have hfz22_3:=blk_frozen BK144.out 3;have hfz22_4:=blk_frozen BK144.out 4))
    go_ret
    exact ⟨by first|rfl|(simp [errW_none,errW_some]<;>rfl)|(simp [*,errW_none,errW_some]<;>rfl),by repeat (first|(with_reducible first|exact HB.out|apply below_alloc|apply pw_below_drewN|apply below_drew1|refine below_set ?_ GE143.out|refine below_set ?_ GE144.out)|exact HB.out)⟩
  ·rw [if_neg c4] at H
   have c4b0:(a0_1 == a1_1)=false:=beq_eq_false_iff_ne.mpr c4
   have c4b1:(a0_1 != a1_1)=true:=bne_iff_ne.mpr c4
   obtain rfl:=Option.some.inj H
   go_enter Tryd.func38,Tryd.ntmps38
   go_wp2_with (first|((with_reducible refine gate_dst (N:=2) rfl ?_);refine box_event ?hg (N:=2) ?hd (cs:=#[.int .i64 a0_0,.int .i64 a0_1,.int .i64 a0_2,.int .i64 a0_3,.slice A0_4 l0_4.length c0_4]) (t:=41) ?hr ?_;(case hd=>rfl);(case hg=>rfl);(case hr=>first|(go_simp;done)|(go_simp;rfl));intro gb143 hg w23 hbox hb;have n0_:=Aside0.mk (below_step (by repeat (first|(with_reducible first|exact HB.out|apply below_alloc|apply pw_below_drewN|apply below_drew1)|exact HB.out)) hb);have n1_:=Aside0.mk (hbox);have n2_:=Aside0.mk ((by rw [hg];exact (below_size (by repeat (first|(with_reducible first|exact HB.out|apply below_alloc|apply pw_below_drewN|apply below_drew1)|exact HB.out))):w.heap.size≤gb143));have n3_:=Aside0.mk ((by rw [hg];exact (below_size (by repeat (first|(with_reducible first|exact HB.out|apply below_alloc|apply pw_below_drewN|apply below_drew1)|exact HB.out))):w.heap.size≤gb143));clear HB;have HB:=n0_;have BK143:=n1_;have GW143:=n2_;have GE143:=n3_;clear n0_ n1_ n2_ n3_;clear hb hbox hg)|((with_reducible refine gate_dst (N:=3) rfl ?_);refine box_event ?hg (N:=3) ?hd (cs:=#[.int .i64 a1_0,.int .i64 a1_1,.int .i64 a1_2,.int .i64 a1_3,.slice A1_4 l1_4.length c1_4]) (t:=41) ?hr ?_;(case hd=>rfl);(case hg=>rfl);(case hr=>first|(go_simp;done)|(go_simp;rfl));intro gb144 hg w24 hbox hb;have n0_:=Aside0.mk (blk_below (g:=gb143) (o:=.cells #[.int .i64 a0_0,.int .i64 a0_1,.int .i64 a0_2,.int .i64 a0_3,.slice A0_4 l0_4.length c0_4] 41 (0,0)) (by (with_reducible repeat (first|refine blk_drewN ?_ _|refine blk_drew ?_|refine blk_alloc ?_ _));exact BK143.out) hb);have n1_:=Aside0.mk (below_step (by repeat (first|(with_reducible first|exact HB.out|apply below_alloc|apply pw_below_drewN|apply below_drew1|refine below_set ?_ GE143.out)|exact HB.out)) hb);have n2_:=Aside0.mk (hbox);have n3_:=Aside0.mk ((by rw [hg];exact (below_size (by repeat (first|(with_reducible first|exact HB.out|apply below_alloc|apply pw_below_drewN|apply below_drew1|refine below_set ?_ GE143.out)|exact HB.out))):w.heap.size≤gb144));have n4_:=Aside0.mk ((by rw [hg];exact (below_size (by repeat (first|(with_reducible first|exact HB.out|apply below_alloc|apply pw_below_drewN|apply below_drew1|refine below_set ?_ GE143.out)|exact HB.out))):w.heap.size≤gb144));have n5_:=Aside0.mk ((by rw [hg];exact Nat.ne_of_lt (blk_lt (g:=gb143) (o:=.cells #[.int .i64 a0_0,.int .i64 a0_1,.int .i64 a0_2,.int .i64 a0_3,.slice A0_4 l0_4.length c0_4] 41 (0,0)) (by (with_reducible repeat (first|refine blk_drewN ?_ _|refine blk_drew ?_|refine blk_alloc ?_ _));exact BK143.out)):gb143≠gb144));have n6_:=Aside0.mk ((by rw [hg];exact Nat.ne_of_gt (blk_lt (g:=gb143) (o:=.cells #[.int .i64 a0_0,.int .i64 a0_1,.int .i64 a0_2,.int .i64 a0_3,.slice A0_4 l0_4.length c0_4] 41 (0,0)) (by (with_reducible repeat (first|refine blk_drewN ?_ _|refine blk_drew ?_|refine blk_alloc ?_ _));exact BK143.out)):gb144≠gb143));clear BK143;clear HB;have BK143:=n0_;have HB:=n1_;have BK144:=n2_;have GW144:=n3_;have GE144:=n4_;have NB143_144:=n5_;have NB144_143:=n6_;clear n0_ n1_ n2_ n3_ n4_ n5_ n6_;clear hb hbox hg;have hnb25:=NB143_144.out;have hnc25:=NB144_143.out;have hcz26_0:w24.cell? ⟨gb143,0,none⟩=some (.int .i64 a0_0):=(blk_cell BK143.out 0).trans rfl;have hcz26_1:w24.cell? ⟨gb143,1,none⟩=some (.int .i64 a0_1):=(blk_cell BK143.out 1).trans rfl;have hcz26_2:w24.cell? ⟨gb143,2,none⟩=some (.int .i64 a0_2):=(blk_cell BK143.out 2).trans rfl;have hcz26_3:w24.cell? ⟨gb143,3,none⟩=some (.int .i64 a0_3):=(blk_cell BK143.out 3).trans rfl;have hcz26_4:w24.cell? ⟨gb143,4,none⟩=some (.slice A0_4 l0_4.length c0_4):=(blk_cell BK143.out 4).trans rfl;have hfz26_0:=blk_frozen BK143.out 0;have hfz26_1:=blk_frozen BK143.out 1;have hfz26_2:=blk_frozen BK143.out 2;have hfz26_3:=blk_frozen BK143.out 3;have hfz26_4:=blk_frozen BK143.out 4;have hcz27_0:w24.cell? ⟨gb144,0,none⟩=some (.int .i64 a1_0):=(blk_cell BK144.out 0).trans rfl;have hcz27_1:w24.cell? ⟨gb144,1,none⟩=some (.int .i64 a1_1):=(blk_cell BK144.out 1).trans rfl;have hcz27_2:w24.cell? ⟨gb144,2,none⟩=some (.int .i64 a1_2):=(blk_cell BK144.out 2).trans rfl;have hcz27_3:w24.cell? ⟨gb144,3,none⟩=some (.int .i64 a1_3):=(blk_cell BK144.out 3).trans rfl;have hcz27_4:w24.cell? ⟨gb144,4,none⟩=some (.slice A1_4 l1_4.length c1_4):=(blk_cell BK144.out 4).trans rfl;have hfz27_0:=blk_frozen BK144.out 0;have hfz27_1:=blk_frozen BK144.out 1;have hfz27_2:=blk_frozen BK144.out 2;have hfz27_3:=blk_frozen BK144.out 3;have hfz27_4:=blk_frozen BK144.out 4))
   go_ret
   exact ⟨by first|rfl|(simp [errW_none,errW_some]<;>rfl)|(simp [*,errW_none,errW_some]<;>rfl),by repeat (first|(with_reducible first|exact HB.out|apply below_alloc|apply pw_below_drewN|apply below_drew1|refine below_set ?_ GE143.out|refine below_set ?_ GE144.out)|exact HB.out)⟩
 ·rw [if_neg c3] at H
  have c3b0:(a0_0 == a1_0)=false:=beq_eq_false_iff_ne.mpr c3
  have c3b1:(a0_0 != a1_0)=true:=bne_iff_ne.mpr c3
  obtain rfl:=Option.some.inj H
  go_enter Tryd.func38,Tryd.ntmps38
  go_wp2_with (first|((with_reducible refine gate_dst (N:=2) rfl ?_);refine box_event ?hg (N:=2) ?hd (cs:=#[.int .i64 a0_0,.int .i64 a0_1,.int .i64 a0_2,.int .i64 a0_3,.slice A0_4 l0_4.length c0_4]) (t:=41) ?hr ?_;(case hd=>rfl);(case hg=>rfl);(case hr=>first|(go_simp;done)|(go_simp;rfl));intro gb143 hg w28 hbox hb;have n0_:=Aside0.mk (below_step (by repeat (first|(with_reducible first|exact HB.out|apply below_alloc|apply pw_below_drewN|apply below_drew1)|exact HB.out)) hb);have n1_:=Aside0.mk (hbox);have n2_:=Aside0.mk ((by rw [hg];exact (below_size (by repeat (first|(with_reducible first|exact HB.out|apply below_alloc|apply pw_below_drewN|apply below_drew1)|exact HB.out))):w.heap.size≤gb143));have n3_:=Aside0.mk ((by rw [hg];exact (below_size (by repeat (first|(with_reducible first|exact HB.out|apply below_alloc|apply pw_below_drewN|apply below_drew1)|exact HB.out))):w.heap.size≤gb143));clear HB;have HB:=n0_;have BK143:=n1_;have GW143:=n2_;have GE143:=n3_;clear n0_ n1_ n2_ n3_;clear hb hbox hg)|((with_reducible refine gate_dst (N:=3) rfl ?_);refine box_event ?hg (N:=3) ?hd (cs:=#[.int .i64 a1_0,.int .i64 a1_1,.int .i64 a1_2,.int .i64 a1_3,.slice A1_4 l1_4.length c1_4]) (t:=41) ?hr ?_;(case hd=>rfl);(case hg=>rfl);(case hr=>first|(go_simp;done)|(go_simp;rfl));intro gb144 hg w29 hbox hb;have n0_:=Aside0.mk (blk_below (g:=gb143) (o:=.cells #[.int .i64 a0_0,.int .i64 a0_1,.int .i64 a0_2,.int .i64 a0_3,.slice A0_4 l0_4.length c0_4] 41 (0,0)) (by (with_reducible repeat (first|refine blk_drewN ?_ _|refine blk_drew ?_|refine blk_alloc ?_ _));exact BK143.out) hb);have n1_:=Aside0.mk (below_step (by repeat (first|(with_reducible first|exact HB.out|apply below_alloc|apply pw_below_drewN|apply below_drew1|refine below_set ?_ GE143.out)|exact HB.out)) hb);have n2_:=Aside0.mk (hbox);have n3_:=Aside0.mk ((by rw [hg];exact (below_size (by repeat (first|(with_reducible first|exact HB.out|apply below_alloc|apply pw_below_drewN|apply below_drew1|refine below_set ?_ GE143.out)|exact HB.out))):w.heap.size≤gb144));have n4_:=Aside0.mk ((by rw [hg];exact (below_size (by repeat (first|(with_reducible first|exact HB.out|apply below_alloc|apply pw_below_drewN|apply below_drew1|refine below_set ?_ GE143.out)|exact HB.out))):w.heap.size≤gb144));have n5_:=Aside0.mk ((by rw [hg];exact Nat.ne_of_lt (blk_lt (g:=gb143) (o:=.cells #[.int .i64 a0_0,.int .i64 a0_1,.int .i64 a0_2,.int .i64 a0_3,.slice A0_4 l0_4.length c0_4] 41 (0,0)) (by (with_reducible repeat (first|refine blk_drewN ?_ _|refine blk_drew ?_|refine blk_alloc ?_ _));exact BK143.out)):gb143≠gb144));have n6_:=Aside0.mk ((by rw [hg];exact Nat.ne_of_gt (blk_lt (g:=gb143) (o:=.cells #[.int .i64 a0_0,.int .i64 a0_1,.int .i64 a0_2,.int .i64 a0_3,.slice A0_4 l0_4.length c0_4] 41 (0,0)) (by (with_reducible repeat (first|refine blk_drewN ?_ _|refine blk_drew ?_|refine blk_alloc ?_ _));exact BK143.out)):gb144≠gb143));clear BK143;clear HB;have BK143:=n0_;have HB:=n1_;have BK144:=n2_;have GW144:=n3_;have GE144:=n4_;have NB143_144:=n5_;have NB144_143:=n6_;clear n0_ n1_ n2_ n3_ n4_ n5_ n6_;clear hb hbox hg;have hnb30:=NB143_144.out;have hnc30:=NB144_143.out;have hcz31_0:w29.cell? ⟨gb143,0,none⟩=some (.int .i64 a0_0):=(blk_cell BK143.out 0).trans rfl;have hcz31_1:w29.cell? ⟨gb143,1,none⟩=some (.int .i64 a0_1):=(blk_cell BK143.out 1).trans rfl;have hcz31_2:w29.cell? ⟨gb143,2,none⟩=some (.int .i64 a0_2):=(blk_cell BK143.out 2).trans rfl;have hcz31_3:w29.cell? ⟨gb143,3,none⟩=some (.int .i64 a0_3):=(blk_cell BK143.out 3).trans rfl;have hcz31_4:w29.cell? ⟨gb143,4,none⟩=some (.slice A0_4 l0_4.length c0_4):=(blk_cell BK143.out 4).trans rfl;have hfz31_0:=blk_frozen BK143.out 0;have hfz31_1:=blk_frozen BK143.out 1;have hfz31_2:=blk_frozen BK143.out 2;have hfz31_3:=blk_frozen BK143.out 3;have hfz31_4:=blk_frozen BK143.out 4;have hcz32_0:w29.cell? ⟨gb144,0,none⟩=some (.int .i64 a1_0):=(blk_cell BK144.out 0).trans rfl;have hcz32_1:w29.cell? ⟨gb144,1,none⟩=some (.int .i64 a1_1):=(blk_cell BK144.out 1).trans rfl;have hcz32_2:w29.cell? ⟨gb144,2,none⟩=some (.int .i64 a1_2):=(blk_cell BK144.out 2).trans rfl;have hcz32_3:w29.cell? ⟨gb144,3,none⟩=some (.int .i64 a1_3):=(blk_cell BK144.out 3).trans rfl;have hcz32_4:w29.cell? ⟨gb144,4,none⟩=some (.slice A1_4 l1_4.length c1_4):=(blk_cell BK144.out 4).trans rfl;have hfz32_0:=blk_frozen BK144.out 0;have hfz32_1:=blk_frozen BK144.out 1;have hfz32_2:=blk_frozen BK144.out 2;have hfz32_3:=blk_frozen BK144.out 3;have hfz32_4:=blk_frozen BK144.out 4))
  go_ret
  exact ⟨by first|rfl|(simp [errW_none,errW_some]<;>rfl)|(simp [*,errW_none,errW_some]<;>rfl),by repeat (first|(with_reducible first|exact HB.out|apply below_alloc|apply pw_below_drewN|apply below_drew1|refine below_set ?_ GE143.out|refine below_set ?_ GE144.out)|exact HB.out)⟩

end Go.Proofs.YtamojbfmphainaaDoor.Pr
-- shrunk
-- written by a program of this session's (a turned copy of the kit's printer); Lean checks it
namespace Go.Proofs.YtamojbfmphainaaDoor.Pr
open Go.RowKit Go.Proofs.YtamojbfmphainaaDoorW.PrintWords Go.Proofs.YtamojbfmphainaaDoorW.PrintLast Go.Proofs.YtamojbfmphainaaDoorW.PrintMore
attribute [local go_sem] max2_int min2_int max_two min_two max_three min_three max_four min_four   -- for this text's walks alone

def r05_Same.l0:Nat→List (S41)→List (S41)→Int→Option (Bool)
 | 0,_,_,_=>none
 | k+1,x0,x1,x5=>if x5<(x0.length:Int) then (if 0≤x5 then (if x5<(x1.length:Int) then ((r05_One.f k ((rd_T41 x0 x5).f0) ((rd_T41 x0 x5).f1) ((rd_T41 x0 x5).f2) ((rd_T41 x0 x5).f3) ((rd_T41 x0 x5).f4) ((rd_T41 x1 x5).f0) ((rd_T41 x1 x5).f1) ((rd_T41 x1 x5).f2) ((rd_T41 x1 x5).f3) ((rd_T41 x1 x5).f4)).bind fun t148=>(if t148=true then (r05_Same.l0 k x0 x1 (wrap64 (x5+1))) else (some false))) else (none)) else (none)) else (some true)
def r05_Same.f (k:Nat) (l0:List (S41)) (l1:List (S41)):Option (Bool):=if (l0.length:Int)=(l1.length:Int) then (r05_Same.l0 k l0 l1 0) else (some false)
def r05_Same.T6:Bool × List (List Nat × List Nat):=(true,[([],[]),([],[]),([0,1],[0,1]),([2],[2]),([],[]),([],[]),([4,5],[4,5]),([6],[6]),([3,7],[3,7]),([8,8,0,1,2,3,4,5,6,7,8],[8])])
def r05_Same.B6:List Nat:=[0,0,3,7,0,0,48,112,255,511]
theorem r05_Same.tab6:rtab .any (opsOf Tryd.f14 6)=r05_Same.T6:=by kernel_rfl
theorem r05_Same.bits6:waitsOk r05_Same.T6.2 r05_Same.B6=true:=by kernel_rfl
set_option maxHeartbeats 8000000 in
set_option maxRecDepth 100000 in
theorem r05_Same.calls (k:Nat) (A0:Option Addr) (c0:Nat) (l0:List (S41)) (A1:Option Addr) (c1:Nat) (l1:List (S41)) (r:Bool) (w:World) (hr0:Kd.C k41 w A0 l0.length l0) (hc0:l0.length≤c0) (hr1:Kd.C k41 w A1 l1.length l1) (hc1:l1.length≤c1) (h:r05_Same.f k l0 l1=some r) :
  Calls Tryd.prog 14 #[.slice A0 l0.length c0,.slice A1 l1.length c1] w fun e w'=>e=.returned (.bool r)∧Below w.heap.size w w':=by
 have hu41:=Tryd.underlying41
 have HR0:=Aside0.mk hr0
 have HC0:=Aside0.mk hc0
 clear hr0 hc0
 have HR1:=Aside0.mk hr1
 have HC1:=Aside0.mk hc1
 clear hr1 hc1
 have HB:=Aside0.mk (Below.refl w.heap.size w)
 have H:(if (l0.length:Int)=(l1.length:Int) then (r05_Same.l0 k l0 l1 0) else (some false))=some r:=h
 clear h
 by_cases c3:(l0.length:Int)=(l1.length:Int)
 ·rw [if_pos c3] at H
  have c3b0:((l0.length:Int) == (l1.length:Int))=true:=beq_iff_eq.mpr c3
  have c3b1:((l0.length:Int) != (l1.length:Int))=false:=bne_eq_false_iff_eq.mpr c3
  have c3b2:(l0.length == l1.length)=true:=by first|simpa using c3|(simp at c3 ⊢;omega)
  clear c3
  have H':=Aside0.mk H
  clear H
  go_enter Tryd.func14,Tryd.ntmps14
  go_wp2
  go_loopg [5] k (fun kq v5 w'=>∃ (x5_1:Int),v5=.int .i64 x5_1∧Aside0 (r05_Same.l0 kq l0 l1 x5_1=some r)∧Aside0 (kq≤k)∧Aside0 (Below w.heap.size w w'))
  case atStart=>exact ⟨(0),(by first|rfl|(simp;done)|(simp [*];done)),H',⟨Nat.le_refl _⟩,⟨by repeat (first|(with_reducible first|exact HB.out|apply below_alloc|apply pw_below_drewN|apply below_drew1)|exact HB.out)⟩⟩
  case round =>
   clear H'
   try clear c1
   try clear p2
   try clear c3
   try clear c3b0
   try clear c3b1
   try clear c3b2
   obtain ⟨x5_1,rfl,HA,HK1,HB⟩:=hrel
   cases gk with
   | zero=>exact absurd HA.out (by simp [r05_Same.l0])
   | succ k1 =>
    have H:=HA.out
    clear HA
    simp only [r05_Same.l0] at H
    by_cases c4:x5_1<(l0.length:Int)
    ·rw [if_pos c4] at H
     have c4b0:decide (x5_1<(l0.length:Int))=true:=decide_eq_true c4
     clear c4
     by_cases c5:0≤x5_1
     ·rw [if_pos c5] at H
      have c5b0:decide (0≤x5_1)=true:=decide_eq_true c5
      clear c5
      by_cases c6:x5_1<(l1.length:Int)
      ·rw [if_pos c6] at H
       have c6b0:decide (x5_1<(l1.length:Int))=true:=decide_eq_true c6
       clear c6
       replace H:=Option.bind_eq_some_iff.mp H
       obtain ⟨t148,A70,H⟩:=H
       replace H:(if t148=true then (r05_Same.l0 k1 l0 l1 (wrap64 (x5_1+1))) else (some false))=some r:=H
       have A7:=Aside0.mk A70
       clear A70
       by_cases c8:t148=true
       ·subst c8
        have H1:(r05_Same.l0 k1 l0 l1 (wrap64 (x5_1+1)))=some r:=by rw [if_pos rfl] at H;exact H
        clear H
        have H:=H1
        clear H1
        have H':=Aside0.mk H
        clear H
        try go_wp2
        have n0_:=Aside0.mk (below_drew1 HB.out)
        clear HB
        have HB:=n0_
        clear n0_
        have p146:0≤(x5_1:Int):=of_decide_eq_true (by first|(with_reducible assumption)|assumption)
        have q146:x5_1<(l0.length:Int):=of_decide_eq_true (by first|(with_reducible assumption)|assumption)
        obtain ⟨ad146,A146_4,c146_4,e146,hx146_0,hx146_1,hx146_2,hx146_3,hx146_4,hl146_4,hi146_4⟩:=at_T41 HR0.out x5_1 p146 q146
        have hw146_4:=hx146_4
        have hw146_3:=hx146_3
        have hw146_2:=hx146_2
        have hw146_1:=hx146_1
        have hw146_0:=hx146_0
        cases e146
        replace hx146_0:=(HB.out.cell (World.block_lt_of_cell? w _ hx146_0)).trans hx146_0
        replace hx146_1:=(HB.out.cell (World.block_lt_of_cell? w _ hx146_1)).trans hx146_1
        replace hx146_2:=(HB.out.cell (World.block_lt_of_cell? w _ hx146_2)).trans hx146_2
        replace hx146_3:=(HB.out.cell (World.block_lt_of_cell? w _ hx146_3)).trans hx146_3
        replace hx146_4:=(HB.out.cell (World.block_lt_of_cell? w _ hx146_4)).trans hx146_4
        have HR146_4:=Aside0.mk hi146_4
        have HC146_4:=Aside0.mk hl146_4
        clear hi146_4 hl146_4
        replace p146:=eq_true p146
        replace q146:=eq_true q146
        have p147:0≤(x5_1:Int):=of_decide_eq_true (by first|(with_reducible assumption)|assumption)
        have q147:x5_1<(l1.length:Int):=of_decide_eq_true (by first|(with_reducible assumption)|assumption)
        obtain ⟨ad147,A147_4,c147_4,e147,hx147_0,hx147_1,hx147_2,hx147_3,hx147_4,hl147_4,hi147_4⟩:=at_T41 HR1.out x5_1 p147 q147
        have hw147_4:=hx147_4
        have hw147_3:=hx147_3
        have hw147_2:=hx147_2
        have hw147_1:=hx147_1
        have hw147_0:=hx147_0
        cases e147
        replace hx147_0:=(HB.out.cell (World.block_lt_of_cell? w _ hx147_0)).trans hx147_0
        replace hx147_1:=(HB.out.cell (World.block_lt_of_cell? w _ hx147_1)).trans hx147_1
        replace hx147_2:=(HB.out.cell (World.block_lt_of_cell? w _ hx147_2)).trans hx147_2
        replace hx147_3:=(HB.out.cell (World.block_lt_of_cell? w _ hx147_3)).trans hx147_3
        replace hx147_4:=(HB.out.cell (World.block_lt_of_cell? w _ hx147_4)).trans hx147_4
        have HR147_4:=Aside0.mk hi147_4
        have HC147_4:=Aside0.mk hl147_4
        clear hi147_4 hl147_4
        replace p147:=eq_true p147
        replace q147:=eq_true q147
        refine start_ (n:=10) (S:=fun w'=>w'.cell? (ad146.add ((x5_1).toNat * 5))=some (.int .i64 ((rd_T41 l0 x5_1).f0))∧w'.cell? ⟨(ad146.add ((x5_1).toNat * 5)).block,(ad146.add ((x5_1).toNat * 5)).off+1,none⟩=some (.int .i64 ((rd_T41 l0 x5_1).f1))∧w'.cell? ⟨(ad146.add ((x5_1).toNat * 5)).block,(ad146.add ((x5_1).toNat * 5)).off+2,none⟩=some (.int .i64 ((rd_T41 l0 x5_1).f2))∧w'.cell? ⟨(ad146.add ((x5_1).toNat * 5)).block,(ad146.add ((x5_1).toNat * 5)).off+3,none⟩=some (.int .i64 ((rd_T41 l0 x5_1).f3))∧w'.cell? ⟨(ad146.add ((x5_1).toNat * 5)).block,(ad146.add ((x5_1).toNat * 5)).off+4,none⟩=some (.slice A146_4 ((rd_T41 l0 x5_1).f4).length c146_4)∧w'.cell? (ad147.add ((x5_1).toNat * 5))=some (.int .i64 ((rd_T41 l1 x5_1).f0))∧w'.cell? ⟨(ad147.add ((x5_1).toNat * 5)).block,(ad147.add ((x5_1).toNat * 5)).off+1,none⟩=some (.int .i64 ((rd_T41 l1 x5_1).f1))∧w'.cell? ⟨(ad147.add ((x5_1).toNat * 5)).block,(ad147.add ((x5_1).toNat * 5)).off+2,none⟩=some (.int .i64 ((rd_T41 l1 x5_1).f2))∧w'.cell? ⟨(ad147.add ((x5_1).toNat * 5)).block,(ad147.add ((x5_1).toNat * 5)).off+3,none⟩=some (.int .i64 ((rd_T41 l1 x5_1).f3))∧w'.cell? ⟨(ad147.add ((x5_1).toNat * 5)).block,(ad147.add ((x5_1).toNat * 5)).off+4,none⟩=some (.slice A147_4 ((rd_T41 l1 x5_1).f4).length c147_4)) (ds:=[]) #[false,false,false,false,false,false,false,false,false,false] (by kernel_rfl) rfl rfl ⟨((HB.out.cell (World.block_lt_of_cell? w _ hw146_0)).trans hw146_0),((HB.out.cell (World.block_lt_of_cell? w _ hw146_1)).trans hw146_1),((HB.out.cell (World.block_lt_of_cell? w _ hw146_2)).trans hw146_2),((HB.out.cell (World.block_lt_of_cell? w _ hw146_3)).trans hw146_3),((HB.out.cell (World.block_lt_of_cell? w _ hw146_4)).trans hw146_4),((HB.out.cell (World.block_lt_of_cell? w _ hw147_0)).trans hw147_0),((HB.out.cell (World.block_lt_of_cell? w _ hw147_1)).trans hw147_1),((HB.out.cell (World.block_lt_of_cell? w _ hw147_2)).trans hw147_2),((HB.out.cell (World.block_lt_of_cell? w _ hw147_3)).trans hw147_3),((HB.out.cell (World.block_lt_of_cell? w _ hw147_4)).trans hw147_4)⟩ (fun hHeld=>?_);refine with_tabW r05_Same.tab6 r05_Same.bits6 (fun HT_ HW_=>?_)
        generalize wr.drew=w9 at HB HR146_4 HR147_4 hx146_0 hx146_1 hx146_2 hx146_3 hx146_4 hx147_0 hx147_1 hx147_2 hx147_3 hx147_4 hHeld ⊢
        refine pure_ (i:=0) (N:=some 18) (v:=?_) (a':=?_) #[true,false,false,false,false,false,false,false,false,false] rfl rfl (any_of HT_.out (by kernel_rfl)) (fun _ _ _ h=>h) (Or.inl ⟨by rfl,?_⟩) ?_ ?_
        rotate_left
        ·intro w'
         go_simp
         with_reducible rfl
        rotate_left
        ·simp only [Act.put,List.setIfInBounds_toArray,List.set_cons_zero,List.set_cons_succ,i64_w,i32_w]
         rfl
        refine pure_ (i:=1) (N:=some 19) (v:=?_) (a':=?_) #[true,true,false,false,false,false,false,false,false,false] rfl rfl (any_of HT_.out (by kernel_rfl)) (fun _ _ _ h=>h) (Or.inl ⟨by rfl,?_⟩) ?_ ?_
        rotate_left
        ·intro w'
         go_simp
         with_reducible rfl
        rotate_left
        ·simp only [Act.put,List.setIfInBounds_toArray,List.set_cons_zero,List.set_cons_succ,i64_w,i32_w]
         rfl
        refine pure_ (i:=2) (N:=some 20) (v:=?_) (a':=?_) #[true,true,true,false,false,false,false,false,false,false] rfl rfl (any_of HT_.out (by kernel_rfl)) (fun _ _ _ h=>h) (Or.inl ⟨by rfl,?_⟩) ?_ ?_
        rotate_left
        ·intro w'
         go_simp
         with_reducible rfl
        rotate_left
        ·simp only [Act.put,List.setIfInBounds_toArray,List.set_cons_zero,List.set_cons_succ,i64_w,i32_w]
         rfl
        refine pure_ (i:=4) (N:=some 22) (v:=?_) (a':=?_) #[true,true,true,false,true,false,false,false,false,false] rfl rfl (any_of HT_.out (by kernel_rfl)) (fun _ _ _ h=>h) (Or.inl ⟨by rfl,?_⟩) ?_ ?_
        rotate_left
        ·intro w'
         go_simp
         with_reducible rfl
        rotate_left
        ·simp only [Act.put,List.setIfInBounds_toArray,List.set_cons_zero,List.set_cons_succ,i64_w,i32_w]
         rfl
        refine pure_ (i:=5) (N:=some 23) (v:=?_) (a':=?_) #[true,true,true,false,true,true,false,false,false,false] rfl rfl (any_of HT_.out (by kernel_rfl)) (fun _ _ _ h=>h) (Or.inl ⟨by rfl,?_⟩) ?_ ?_
        rotate_left
        ·intro w'
         go_simp
         with_reducible rfl
        rotate_left
        ·simp only [Act.put,List.setIfInBounds_toArray,List.set_cons_zero,List.set_cons_succ,i64_w,i32_w]
         rfl
        refine pure_ (i:=6) (N:=some 24) (v:=?_) (a':=?_) #[true,true,true,false,true,true,true,false,false,false] rfl rfl (any_of HT_.out (by kernel_rfl)) (fun _ _ _ h=>h) (Or.inl ⟨by rfl,?_⟩) ?_ ?_
        rotate_left
        ·intro w'
         go_simp
         with_reducible rfl
        rotate_left
        ·simp only [Act.put,List.setIfInBounds_toArray,List.set_cons_zero,List.set_cons_succ,i64_w,i32_w]
         rfl
        refine take_ (i:=3) (N:=some 21) (v:=?_) (a':=?_) #[true,true,true,true,true,true,true,false,false,false] rfl rfl (take_ofW HT_.out HW_.out (by kernel_rfl)) (fun _ _ _ h=>h) (Or.inl ⟨by rfl,?_⟩) hHeld ?_ ?_
        rotate_left
        ·rintro w' ⟨s0,s1,s2,s3,s4,s5,s6,s7,s8,s9⟩
         go_simp
         with_reducible rfl
        rotate_left
        ·simp only [Act.put,List.setIfInBounds_toArray,List.set_cons_zero,List.set_cons_succ,i64_w,i32_w]
         rfl
        refine take_ (i:=7) (N:=some 25) (v:=?_) (a':=?_) #[true,true,true,true,true,true,true,true,false,false] rfl rfl (take_ofW HT_.out HW_.out (by kernel_rfl)) (fun _ _ _ h=>h) (Or.inl ⟨by rfl,?_⟩) hHeld ?_ ?_
        rotate_left
        ·rintro w' ⟨s0,s1,s2,s3,s4,s5,s6,s7,s8,s9⟩
         go_simp
         with_reducible rfl
        rotate_left
        ·simp only [Act.put,List.setIfInBounds_toArray,List.set_cons_zero,List.set_cons_succ,i64_w,i32_w]
         rfl
        refine one_ (i:=8) (N:=some 26) #[true,true,true,true,true,true,true,true,true,false] rfl rfl (one_of HT_.out (by kernel_rfl)) (by decide) (fun K hK=>?_)
        refine goes_ Tryd.func38 (by kernel_rfl) rfl #[.agg #[.int .i64 ((rd_T41 l0 x5_1).f0),.int .i64 ((rd_T41 l0 x5_1).f1),.int .i64 ((rd_T41 l0 x5_1).f2),.int .i64 ((rd_T41 l0 x5_1).f3),.slice A146_4 ((rd_T41 l0 x5_1).f4).length c146_4],.agg #[.int .i64 ((rd_T41 l1 x5_1).f0),.int .i64 ((rd_T41 l1 x5_1).f1),.int .i64 ((rd_T41 l1 x5_1).f2),.int .i64 ((rd_T41 l1 x5_1).f3),.slice A147_4 ((rd_T41 l1 x5_1).f4).length c147_4]] (by rfl) rfl rfl (by (try simp only [List.map_toArray,List.map_cons,List.map_nil]);first|done|rfl|(simp only [List.length_drop,List.length_take];rfl)) ?_
        with_reducible refine (r05_One.calls k1 ((rd_T41 l0 x5_1).f0) ((rd_T41 l0 x5_1).f1) ((rd_T41 l0 x5_1).f2) ((rd_T41 l0 x5_1).f3) _ _ ((rd_T41 l0 x5_1).f4) ((rd_T41 l1 x5_1).f0) ((rd_T41 l1 x5_1).f1) ((rd_T41 l1 x5_1).f2) ((rd_T41 l1 x5_1).f3) _ _ ((rd_T41 l1 x5_1).f4) true _ ?side1 ?side2 ?side3 ?side4 A7.out).mono ?_
        (case side1=>repeat (first|exact (Kd.C_below HR146_4.out HB.out)|(with_reducible refine Kd.C_alloc ?_ _)|(with_reducible refine Kd.C_drewN ?_ _)|(with_reducible refine Kd.C_drew ?_)))
        (case side2=>exact HC146_4.out)
        (case side3=>repeat (first|exact (Kd.C_below HR147_4.out HB.out)|(with_reducible refine Kd.C_alloc ?_ _)|(with_reducible refine Kd.C_drewN ?_ _)|(with_reducible refine Kd.C_drew ?_)))
        (case side4=>exact HC147_4.out)
        rintro e w10 ⟨rfl,hb⟩
        refine ⟨_,rfl,?_⟩
        have n0_:=Aside0.mk (below_step (by repeat (first|(with_reducible first|exact HB.out|apply below_alloc|apply pw_below_drewN|apply below_drew1)|exact HB.out)) hb)
        clear HB
        have HB:=n0_
        clear n0_
        (try clear hb)
        (try clear hb2)
        (try clear hk)
        (try clear hi)
        refine hK.out _ _ ⟨((HB.out.cell (World.block_lt_of_cell? w _ hw146_0)).trans hw146_0),((HB.out.cell (World.block_lt_of_cell? w _ hw146_1)).trans hw146_1),((HB.out.cell (World.block_lt_of_cell? w _ hw146_2)).trans hw146_2),((HB.out.cell (World.block_lt_of_cell? w _ hw146_3)).trans hw146_3),((HB.out.cell (World.block_lt_of_cell? w _ hw146_4)).trans hw146_4),((HB.out.cell (World.block_lt_of_cell? w _ hw147_0)).trans hw147_0),((HB.out.cell (World.block_lt_of_cell? w _ hw147_1)).trans hw147_1),((HB.out.cell (World.block_lt_of_cell? w _ hw147_2)).trans hw147_2),((HB.out.cell (World.block_lt_of_cell? w _ hw147_3)).trans hw147_3),((HB.out.cell (World.block_lt_of_cell? w _ hw147_4)).trans hw147_4)⟩ (fun hHeld=>?_)
        clear hK K
        refine norm_ (a':=?_) ?_ ?_
        rotate_left
        ·show Act.put _ (some 26) _=_
         simp only [Act.put,List.setIfInBounds_toArray,List.set_cons_zero,List.set_cons_succ,i64_w,i32_w]
         rfl
        refine pure_ (i:=9) (N:=some 6) (v:=?_) (a':=?_) #[true,true,true,true,true,true,true,true,true,true] rfl rfl (any_of HT_.out (by kernel_rfl)) (fun _ _ _ h=>h) (Or.inl ⟨by rfl,?_⟩) ?_ ?_
        rotate_left
        ·intro w'
         go_simp
         with_reducible rfl
        rotate_left
        ·simp only [Act.put,List.setIfInBounds_toArray,List.set_cons_zero,List.set_cons_succ,i64_w,i32_w]
         rfl
        refine done_ (done_of HT_.out (by kernel_rfl)) ?_
        try go_wp2
        go_roundg k1
        case measure=>have:=HK1.out;omega
        case rel=>exact ⟨(wrap64 (x5_1+1)),(by first|rfl|(simp;done)|(simp [*];done)),H',⟨by have:=HK1.out;omega⟩,⟨by repeat (first|(with_reducible first|exact HB.out|apply below_alloc|apply pw_below_drewN|apply below_drew1)|exact HB.out)⟩⟩
       ·replace c8:=Bool.eq_false_iff.mpr c8
        subst c8
        have H1:(some false)=some r:=by rw [if_neg (show ¬ (false=true) by decide)] at H;exact H
        clear H
        have H:=H1
        clear H1
        obtain rfl:=Option.some.inj H
        try go_wp2
        have n0_:=Aside0.mk (below_drew1 HB.out)
        clear HB
        have HB:=n0_
        clear n0_
        have p146:0≤(x5_1:Int):=of_decide_eq_true (by first|(with_reducible assumption)|assumption)
        have q146:x5_1<(l0.length:Int):=of_decide_eq_true (by first|(with_reducible assumption)|assumption)
        obtain ⟨ad146,A146_4,c146_4,e146,hx146_0,hx146_1,hx146_2,hx146_3,hx146_4,hl146_4,hi146_4⟩:=at_T41 HR0.out x5_1 p146 q146
        have hw146_4:=hx146_4
        have hw146_3:=hx146_3
        have hw146_2:=hx146_2
        have hw146_1:=hx146_1
        have hw146_0:=hx146_0
        cases e146
        replace hx146_0:=(HB.out.cell (World.block_lt_of_cell? w _ hx146_0)).trans hx146_0
        replace hx146_1:=(HB.out.cell (World.block_lt_of_cell? w _ hx146_1)).trans hx146_1
        replace hx146_2:=(HB.out.cell (World.block_lt_of_cell? w _ hx146_2)).trans hx146_2
        replace hx146_3:=(HB.out.cell (World.block_lt_of_cell? w _ hx146_3)).trans hx146_3
        replace hx146_4:=(HB.out.cell (World.block_lt_of_cell? w _ hx146_4)).trans hx146_4
        have HR146_4:=Aside0.mk hi146_4
        have HC146_4:=Aside0.mk hl146_4
        clear hi146_4 hl146_4
        replace p146:=eq_true p146
        replace q146:=eq_true q146
        have p147:0≤(x5_1:Int):=of_decide_eq_true (by first|(with_reducible assumption)|assumption)
        have q147:x5_1<(l1.length:Int):=of_decide_eq_true (by first|(with_reducible assumption)|assumption)
        obtain ⟨ad147,A147_4,c147_4,e147,hx147_0,hx147_1,hx147_2,hx147_3,hx147_4,hl147_4,hi147_4⟩:=at_T41 HR1.out x5_1 p147 q147
        have hw147_4:=hx147_4
        have hw147_3:=hx147_3
        have hw147_2:=hx147_2
        have hw147_1:=hx147_1
        have hw147_0:=hx147_0
        cases e147
        replace hx147_0:=(HB.out.cell (World.block_lt_of_cell? w _ hx147_0)).trans hx147_0
        replace hx147_1:=(HB.out.cell (World.block_lt_of_cell? w _ hx147_1)).trans hx147_1
        replace hx147_2:=(HB.out.cell (World.block_lt_of_cell? w _ hx147_2)).trans hx147_2
        replace hx147_3:=(HB.out.cell (World.block_lt_of_cell? w _ hx147_3)).trans hx147_3
        replace hx147_4:=(HB.out.cell (World.block_lt_of_cell? w _ hx147_4)).trans hx147_4
        have HR147_4:=Aside0.mk hi147_4
        have HC147_4:=Aside0.mk hl147_4
        clear hi147_4 hl147_4
        replace p147:=eq_true p147
        replace q147:=eq_true q147
        refine start_ (n:=10) (S:=fun w'=>w'.cell? (ad146.add ((x5_1).toNat * 5))=some (.int .i64 ((rd_T41 l0 x5_1).f0))∧w'.cell? ⟨(ad146.add ((x5_1).toNat * 5)).block,(ad146.add ((x5_1).toNat * 5)).off+1,none⟩=some (.int .i64 ((rd_T41 l0 x5_1).f1))∧w'.cell? ⟨(ad146.add ((x5_1).toNat * 5)).block,(ad146.add ((x5_1).toNat * 5)).off+2,none⟩=some (.int .i64 ((rd_T41 l0 x5_1).f2))∧w'.cell? ⟨(ad146.add ((x5_1).toNat * 5)).block,(ad146.add ((x5_1).toNat * 5)).off+3,none⟩=some (.int .i64 ((rd_T41 l0 x5_1).f3))∧w'.cell? ⟨(ad146.add ((x5_1).toNat * 5)).block,(ad146.add ((x5_1).toNat * 5)).off+4,none⟩=some (.slice A146_4 ((rd_T41 l0 x5_1).f4).length c146_4)∧w'.cell? (ad147.add ((x5_1).toNat * 5))=some (.int .i64 ((rd_T41 l1 x5_1).f0))∧w'.cell? ⟨(ad147.add ((x5_1).toNat * 5)).block,(ad147.add ((x5_1).toNat * 5)).off+1,none⟩=some (.int .i64 ((rd_T41 l1 x5_1).f1))∧w'.cell? ⟨(ad147.add ((x5_1).toNat * 5)).block,(ad147.add ((x5_1).toNat * 5)).off+2,none⟩=some (.int .i64 ((rd_T41 l1 x5_1).f2))∧w'.cell? ⟨(ad147.add ((x5_1).toNat * 5)).block,(ad147.add ((x5_1).toNat * 5)).off+3,none⟩=some (.int .i64 ((rd_T41 l1 x5_1).f3))∧w'.cell? ⟨(ad147.add ((x5_1).toNat * 5)).block,(ad147.add ((x5_1).toNat * 5)).off+4,none⟩=some (.slice A147_4 ((rd_T41 l1 x5_1).f4).length c147_4)) (ds:=[]) #[false,false,false,false,false,false,false,false,false,false] (by kernel_rfl) rfl rfl ⟨((HB.out.cell (World.block_lt_of_cell? w _ hw146_0)).trans hw146_0),((HB.out.cell (World.block_lt_of_cell? w _ hw146_1)).trans hw146_1),((HB.out.cell (World.block_lt_of_cell? w _ hw146_2)).trans hw146_2),((HB.out.cell (World.block_lt_of_cell? w _ hw146_3)).trans hw146_3),((HB.out.cell (World.block_lt_of_cell? w _ hw146_4)).trans hw146_4),((HB.out.cell (World.block_lt_of_cell? w _ hw147_0)).trans hw147_0),((HB.out.cell (World.block_lt_of_cell? w _ hw147_1)).trans hw147_1),((HB.out.cell (World.block_lt_of_cell? w _ hw147_2)).trans hw147_2),((HB.out.cell (World.block_lt_of_cell? w _ hw147_3)).trans hw147_3),((HB.out.cell (World.block_lt_of_cell? w _ hw147_4)).trans hw147_4)⟩ (fun hHeld=>?_);refine with_tabW r05_Same.tab6 r05_Same.bits6 (fun HT_ HW_=>?_)
        generalize wr.drew=w11 at HB HR146_4 HR147_4 hx146_0 hx146_1 hx146_2 hx146_3 hx146_4 hx147_0 hx147_1 hx147_2 hx147_3 hx147_4 hHeld ⊢
        refine pure_ (i:=0) (N:=some 18) (v:=?_) (a':=?_) #[true,false,false,false,false,false,false,false,false,false] rfl rfl (any_of HT_.out (by kernel_rfl)) (fun _ _ _ h=>h) (Or.inl ⟨by rfl,?_⟩) ?_ ?_
        rotate_left
        ·intro w'
         go_simp
         with_reducible rfl
        rotate_left
        ·simp only [Act.put,List.setIfInBounds_toArray,List.set_cons_zero,List.set_cons_succ,i64_w,i32_w]
         rfl
        refine pure_ (i:=1) (N:=some 19) (v:=?_) (a':=?_) #[true,true,false,false,false,false,false,false,false,false] rfl rfl (any_of HT_.out (by kernel_rfl)) (fun _ _ _ h=>h) (Or.inl ⟨by rfl,?_⟩) ?_ ?_
        rotate_left
        ·intro w'
         go_simp
         with_reducible rfl
        rotate_left
        ·simp only [Act.put,List.setIfInBounds_toArray,List.set_cons_zero,List.set_cons_succ,i64_w,i32_w]
         rfl
        refine pure_ (i:=2) (N:=some 20) (v:=?_) (a':=?_) #[true,true,true,false,false,false,false,false,false,false] rfl rfl (any_of HT_.out (by kernel_rfl)) (fun _ _ _ h=>h) (Or.inl ⟨by rfl,?_⟩) ?_ ?_
        rotate_left
        ·intro w'
         go_simp
         with_reducible rfl
        rotate_left
        ·simp only [Act.put,List.setIfInBounds_toArray,List.set_cons_zero,List.set_cons_succ,i64_w,i32_w]
         rfl
        refine pure_ (i:=4) (N:=some 22) (v:=?_) (a':=?_) #[true,true,true,false,true,false,false,false,false,false] rfl rfl (any_of HT_.out (by kernel_rfl)) (fun _ _ _ h=>h) (Or.inl ⟨by rfl,?_⟩) ?_ ?_
        rotate_left
        ·intro w'
         go_simp
         with_reducible rfl
        rotate_left
        ·simp only [Act.put,List.setIfInBounds_toArray,List.set_cons_zero,List.set_cons_succ,i64_w,i32_w]
         rfl
        refine pure_ (i:=5) (N:=some 23) (v:=?_) (a':=?_) #[true,true,true,false,true,true,false,false,false,false] rfl rfl (any_of HT_.out (by kernel_rfl)) (fun _ _ _ h=>h) (Or.inl ⟨by rfl,?_⟩) ?_ ?_
        rotate_left
        ·intro w'
         go_simp
         with_reducible rfl
        rotate_left
        ·simp only [Act.put,List.setIfInBounds_toArray,List.set_cons_zero,List.set_cons_succ,i64_w,i32_w]
         rfl
        refine pure_ (i:=6) (N:=some 24) (v:=?_) (a':=?_) #[true,true,true,false,true,true,true,false,false,false] rfl rfl (any_of HT_.out (by kernel_rfl)) (fun _ _ _ h=>h) (Or.inl ⟨by rfl,?_⟩) ?_ ?_
        rotate_left
        ·intro w'
         go_simp
         with_reducible rfl
        rotate_left
        ·simp only [Act.put,List.setIfInBounds_toArray,List.set_cons_zero,List.set_cons_succ,i64_w,i32_w]
         rfl
        refine take_ (i:=3) (N:=some 21) (v:=?_) (a':=?_) #[true,true,true,true,true,true,true,false,false,false] rfl rfl (take_ofW HT_.out HW_.out (by kernel_rfl)) (fun _ _ _ h=>h) (Or.inl ⟨by rfl,?_⟩) hHeld ?_ ?_
        rotate_left
        ·rintro w' ⟨s0,s1,s2,s3,s4,s5,s6,s7,s8,s9⟩
         go_simp
         with_reducible rfl
        rotate_left
        ·simp only [Act.put,List.setIfInBounds_toArray,List.set_cons_zero,List.set_cons_succ,i64_w,i32_w]
         rfl
        refine take_ (i:=7) (N:=some 25) (v:=?_) (a':=?_) #[true,true,true,true,true,true,true,true,false,false] rfl rfl (take_ofW HT_.out HW_.out (by kernel_rfl)) (fun _ _ _ h=>h) (Or.inl ⟨by rfl,?_⟩) hHeld ?_ ?_
        rotate_left
        ·rintro w' ⟨s0,s1,s2,s3,s4,s5,s6,s7,s8,s9⟩
         go_simp
         with_reducible rfl
        rotate_left
        ·simp only [Act.put,List.setIfInBounds_toArray,List.set_cons_zero,List.set_cons_succ,i64_w,i32_w]
         rfl
        refine one_ (i:=8) (N:=some 26) #[true,true,true,true,true,true,true,true,true,false] rfl rfl (one_of HT_.out (by kernel_rfl)) (by decide) (fun K hK=>?_)
        refine goes_ Tryd.func38 (by kernel_rfl) rfl #[.agg #[.int .i64 ((rd_T41 l0 x5_1).f0),.int .i64 ((rd_T41 l0 x5_1).f1),.int .i64 ((rd_T41 l0 x5_1).f2),.int .i64 ((rd_T41 l0 x5_1).f3),.slice A146_4 ((rd_T41 l0 x5_1).f4).length c146_4],.agg #[.int .i64 ((rd_T41 l1 x5_1).f0),.int .i64 ((rd_T41 l1 x5_1).f1),.int .i64 ((rd_T41 l1 x5_1).f2),.int .i64 ((rd_T41 l1 x5_1).f3),.slice A147_4 ((rd_T41 l1 x5_1).f4).length c147_4]] (by rfl) rfl rfl (by (try simp only [List.map_toArray,List.map_cons,List.map_nil]);first|done|rfl|(simp only [List.length_drop,List.length_take];rfl)) ?_
        with_reducible refine (r05_One.calls k1 ((rd_T41 l0 x5_1).f0) ((rd_T41 l0 x5_1).f1) ((rd_T41 l0 x5_1).f2) ((rd_T41 l0 x5_1).f3) _ _ ((rd_T41 l0 x5_1).f4) ((rd_T41 l1 x5_1).f0) ((rd_T41 l1 x5_1).f1) ((rd_T41 l1 x5_1).f2) ((rd_T41 l1 x5_1).f3) _ _ ((rd_T41 l1 x5_1).f4) false _ ?side1 ?side2 ?side3 ?side4 A7.out).mono ?_
        (case side1=>repeat (first|exact (Kd.C_below HR146_4.out HB.out)|(with_reducible refine Kd.C_alloc ?_ _)|(with_reducible refine Kd.C_drewN ?_ _)|(with_reducible refine Kd.C_drew ?_)))
        (case side2=>exact HC146_4.out)
        (case side3=>repeat (first|exact (Kd.C_below HR147_4.out HB.out)|(with_reducible refine Kd.C_alloc ?_ _)|(with_reducible refine Kd.C_drewN ?_ _)|(with_reducible refine Kd.C_drew ?_)))
        (case side4=>exact HC147_4.out)
        rintro e w12 ⟨rfl,hb⟩
        refine ⟨_,rfl,?_⟩
        have n0_:=Aside0.mk (below_step (by repeat (first|(with_reducible first|exact HB.out|apply below_alloc|apply pw_below_drewN|apply below_drew1)|exact HB.out)) hb)
        clear HB
        have HB:=n0_
        clear n0_
        (try clear hb)
        (try clear hb2)
        (try clear hk)
        (try clear hi)
        refine hK.out _ _ ⟨((HB.out.cell (World.block_lt_of_cell? w _ hw146_0)).trans hw146_0),((HB.out.cell (World.block_lt_of_cell? w _ hw146_1)).trans hw146_1),((HB.out.cell (World.block_lt_of_cell? w _ hw146_2)).trans hw146_2),((HB.out.cell (World.block_lt_of_cell? w _ hw146_3)).trans hw146_3),((HB.out.cell (World.block_lt_of_cell? w _ hw146_4)).trans hw146_4),((HB.out.cell (World.block_lt_of_cell? w _ hw147_0)).trans hw147_0),((HB.out.cell (World.block_lt_of_cell? w _ hw147_1)).trans hw147_1),((HB.out.cell (World.block_lt_of_cell? w _ hw147_2)).trans hw147_2),((HB.out.cell (World.block_lt_of_cell? w _ hw147_3)).trans hw147_3),((HB.out.cell (World.block_lt_of_cell? w _ hw147_4)).trans hw147_4)⟩ (fun hHeld=>?_)
        clear hK K
        refine norm_ (a':=?_) ?_ ?_
        rotate_left
        ·show Act.put _ (some 26) _=_
         simp only [Act.put,List.setIfInBounds_toArray,List.set_cons_zero,List.set_cons_succ,i64_w,i32_w]
         rfl
        refine pure_ (i:=9) (N:=some 6) (v:=?_) (a':=?_) #[true,true,true,true,true,true,true,true,true,true] rfl rfl (any_of HT_.out (by kernel_rfl)) (fun _ _ _ h=>h) (Or.inl ⟨by rfl,?_⟩) ?_ ?_
        rotate_left
        ·intro w'
         go_simp
         with_reducible rfl
        rotate_left
        ·simp only [Act.put,List.setIfInBounds_toArray,List.set_cons_zero,List.set_cons_succ,i64_w,i32_w]
         rfl
        refine done_ (done_of HT_.out (by kernel_rfl)) ?_
        try go_wp2
        go_ret
        exact ⟨by first|rfl|(simp [errW_none,errW_some]<;>rfl)|(simp [*,errW_none,errW_some]<;>rfl),by repeat (first|(with_reducible first|exact HB.out|apply below_alloc|apply pw_below_drewN|apply below_drew1)|exact HB.out)⟩
      ·rw [if_neg c6] at H
       exact absurd H (by simp)
     ·rw [if_neg c5] at H
      exact absurd H (by simp)
    ·rw [if_neg c4] at H
     have c4b0:decide (x5_1<(l0.length:Int))=false:=decide_eq_false c4
     clear c4
     obtain rfl:=Option.some.inj H
     go_wp2
     go_ret
     exact ⟨by first|rfl|(simp [errW_none,errW_some]<;>rfl)|(simp [*,errW_none,errW_some]<;>rfl),by repeat (first|(with_reducible first|exact HB.out|apply below_alloc|apply pw_below_drewN|apply below_drew1)|exact HB.out)⟩
 ·rw [if_neg c3] at H
  have c3b0:((l0.length:Int) == (l1.length:Int))=false:=beq_eq_false_iff_ne.mpr c3
  have c3b1:((l0.length:Int) != (l1.length:Int))=true:=bne_iff_ne.mpr c3
  have c3b2:(l0.length == l1.length)=false:=by first|simpa using c3|(simp at c3 ⊢;omega)
  obtain rfl:=Option.some.inj H
  go_enter Tryd.func14,Tryd.ntmps14
  go_wp2
  go_ret
  exact ⟨by first|rfl|(simp [errW_none,errW_some]<;>rfl)|(simp [*,errW_none,errW_some]<;>rfl),by repeat (first|(with_reducible first|exact HB.out|apply below_alloc|apply pw_below_drewN|apply below_drew1)|exact HB.out)⟩


end Go.Proofs.YtamojbfmphainaaDoor.Pr
-- shrunk
/-
The document's Same of hunks: a list is the same as itself; what is read of a list of hunks.
-/
namespace Go.Proofs.YtamojbfmphainaaDoor.Pr
open Go.RowKit Go.Proofs.YtamojbfmphainaaDoorW.PrintWords Go.Proofs.YtamojbfmphainaaDoorW.PrintLast Go.Proofs.YtamojbfmphainaaDoorW.PrintMore
theorem OneS_ev (h:Hk) (hl:h.f4.length≤4611686018427387904):Ev (fun k=>r05_One.f k h.f0 h.f1 h.f2 h.f3 h.f4 h.f0 h.f1 h.f2 h.f3 h.f4) true:=by
 unfold r05_One.f
 simp only [if_true]
 have h2:=Texts_ev h.f4 h.f4 hl
 rw [decide_eq_true rfl] at h2
 refine Ev.bind h2 ?_
 exact Ev.now _
theorem SameH_l0 (a:List Hk) (hn:a.length≤4611686018427387904) (hl:∀ h ∈ a,h.f4.length≤4611686018427387904):∀ d i,a.length - i=d→i≤a.length→Ev (fun k=>r05_Same.l0 k a a (i:Int)) true:=by
 intro d
 induction d with
 | zero =>
  intro i hd hi
  refine Ev.step (fun _=>r05_Same.l0.eq_2 ..) ?_
  simp only [if_neg (show ¬ (i:Int)<(a.length:Int) by omega)]
  exact Ev.now _
 | succ d ih =>
  intro i hd hi
  refine Ev.step (fun _=>r05_Same.l0.eq_2 ..) ?_
  have h0:i<a.length:=by omega
  simp only [if_pos (show (i:Int)<(a.length:Int) by omega),if_pos (show 0≤(i:Int) by omega),rdU_at h0,w_succ h0 hn]
  refine Ev.bind (OneS_ev _ (hl _ (List.getElem_mem h0))) ?_
  simp only [if_true]
  exact ih (i+1) (by omega) (by omega)
theorem SameH_ev (a:List Hk) (hn:a.length≤4611686018427387904) (hl:∀ h ∈ a,h.f4.length≤4611686018427387904):Ev (fun k=>r05_Same.f k a a) true:=by
 unfold r05_Same.f
 simp only [if_true]
 exact SameH_l0 a hn hl _ 0 rfl (by omega)
end Go.Proofs.YtamojbfmphainaaDoor.Pr
-- shrunk
/-
The chapter's example of layer 6: it answers true.
-/
namespace Go.Proofs.YtamojbfmphainaaDoor.Pr
open Go.RowKit Go.Proofs.YtamojbfmphainaaDoorW.PrintWords Go.Proofs.YtamojbfmphainaaDoorW.PrintLast Go.Proofs.YtamojbfmphainaaDoorW.PrintMore
theorem C_two (w:World) (s t:ByteArray):Kd.string.C (w.alloc (.cells #[.string s,.string t] 9 (0,0))) (some ⟨w.heap.size,0,none⟩) 2 [s,t]:=by
 have hb:=blk_new w (.cells #[.string s,.string t] 9 (0,0))
 refine ⟨rfl,by omega,fun _=>⟨_,rfl,fun j p hj=>⟨[.string p],rfl,rfl,fun i u hu=>?_⟩⟩⟩
 rcases j with _|_|j
 ·obtain rfl:s=p:=by simpa using hj
  rcases i with _|i
  ·obtain rfl:Value.string s=u:=by simpa using hu
   exact (blk_cell hb 0).trans rfl
  ·simp at hu
 ·obtain rfl:t=p:=by simpa using hj
  rcases i with _|i
  ·obtain rfl:Value.string t=u:=by simpa using hu
   exact (blk_cell hb 1).trans rfl
  ·simp at hu
 ·simp at hj
theorem C_newH (w:World) (x:S41) (A:Option Addr) (c:Nat) (hc:x.f4.length≤c) (h:Kd.string.C w A x.f4.length x.f4) :
  Kd.C k41 (w.alloc (.cells #[.int .i64 x.f0,.int .i64 x.f1,.int .i64 x.f2,.int .i64 x.f3,.slice A x.f4.length c] 41 (0,0))) (some ⟨w.heap.size,0,none⟩) 1 [x]:=by
 have hb:=blk_new w (.cells #[.int .i64 x.f0,.int .i64 x.f1,.int .i64 x.f2,.int .i64 x.f3,.slice A x.f4.length c] 41 (0,0))
 refine ⟨rfl,by omega,fun _=>⟨_,rfl,fun j p hj=>?_⟩⟩
 rcases j with _|j
 ·obtain rfl:x=p:=by simpa using hj
  refine ⟨_,rfl,k41_mk _ x hc (Kd.C_alloc h _),fun i u hu=>?_⟩
  rcases i with _|_|_|_|_|i
  ·obtain rfl:=Option.some.inj hu;exact (blk_cell hb 0).trans rfl
  ·obtain rfl:=Option.some.inj hu;exact (blk_cell hb 1).trans rfl
  ·obtain rfl:=Option.some.inj hu;exact (blk_cell hb 2).trans rfl
  ·obtain rfl:=Option.some.inj hu;exact (blk_cell hb 3).trans rfl
  ·obtain rfl:=Option.some.inj hu;exact (blk_cell hb 4).trans rfl
  ·simp at hu
 ·simp at hj
theorem printU_calls (A:Option Addr) (c:Nat) (l:List S41) (w:World) (hL:LaidU w) (hr:Kd.C k41 w A l.length l) (hc:l.length≤c) (h12:l.length≤12) (hF:∀ x ∈ l,FewH x∧∀ s ∈ x.f4,s.size≤499) :
  Calls Tryd.prog 10 #[.slice A l.length c] w fun e w'=>e=.returned (.string (printL canH l ⟨#[]⟩))∧Below w.heap.size w w' :=
 print_calls canH A c l w hL hr hc
  (fun x hx=>ucan_ev x (by obtain ⟨h1,h2,h3,h4,h5,h6,h7,h8,h9⟩:=(hF x hx).1;exact ⟨by omega,by omega,by omega,by omega⟩) (by have:=(hF x hx).1.1;omega) (fun s hs=>by have:=(hF x hx).2 s hs;omega))
  (fun x hx hc=>by
   obtain ⟨⟨h1,h2,h3,h4,h5,h6,h7,h8,h9⟩,_⟩:=hF x hx
   unfold canH at hc
   rw [Bool.and_eq_true,Bool.and_eq_true] at hc
   have hr:=of_decide_eq_true hc.2.1
   have e1:0≤x.f1:=by rw [hr.2.2.2.1];omega
   have e2:0≤x.f3:=by rw [hr.2.2.2.2];omega
   have:=hr.2.1
   have:=hr.2.2.1
   omega)
  (by omega) (fun x hx=>⟨by have:=(hF x hx).1.1;omega,fun s hs=>by have:=(hF x hx).2 s hs;omega⟩)
set_option maxRecDepth 100000 in
set_option maxHeartbeats 4000000 in
theorem awakeU_calls (w:World) (hL:LaidU w):Calls Tryd.prog 8 #[] w fun e w'=>e=.returned (.bool true)∧Below w.heap.size w w':=by
 have HL:=Aside0.mk hL
 clear hL
 go_enter Tryd.func8,Tryd.ntmps8
 go_upto_region 2 with (fail)
 have HS0:=C_two w ⟨#[45,97,10]⟩ ⟨#[43,98]⟩
 have HB0:Below w.heap.size w (w.alloc (.cells #[.string ⟨#[45,97,10]⟩,.string ⟨#[43,98]⟩] 9 (0,0))):=below_alloc (Below.refl _ _) _
 have hz0:(w.alloc (.cells #[.string ⟨#[45,97,10]⟩,.string ⟨#[43,98]⟩] 9 (0,0))).heap.size=w.heap.size+1:=by show (w.heap.push _).size=_;exact Array.size_push _
 generalize w.alloc (.cells #[.string ⟨#[45,97,10]⟩,.string ⟨#[43,98]⟩] 9 (0,0))=W0 at HS0 HB0 hz0 ⊢
 rw [← hz0]
 have HBX:=Aside0.mk (blk_new W0 (.cells #[.int .i64 0,.int .i64 1,.int .i64 0,.int .i64 1,.slice (some ⟨w.heap.size,0,none⟩) 2 2] 41 (0,0)))
 have HB1:Below w.heap.size w (W0.alloc (.cells #[.int .i64 0,.int .i64 1,.int .i64 0,.int .i64 1,.slice (some ⟨w.heap.size,0,none⟩) 2 2] 41 (0,0))):=below_alloc HB0 _
 have HS1:=Aside0.mk (Kd.C_alloc HS0 (.cells #[.int .i64 0,.int .i64 1,.int .i64 0,.int .i64 1,.slice (some ⟨w.heap.size,0,none⟩) 2 2] 41 (0,0)))
 generalize W0.alloc (.cells #[.int .i64 0,.int .i64 1,.int .i64 0,.int .i64 1,.slice (some ⟨w.heap.size,0,none⟩) 2 2] 41 (0,0))=W1 at HBX HB1 HS1 ⊢
 clear HS0 HB0 hz0
 generalize W0.heap.size=g at HBX ⊢
 obtain ⟨A,hA⟩:∃ A:Option Addr,A=some ⟨w.heap.size,0,none⟩:=⟨_,rfl⟩
 rw [← hA] at HBX HS1 ⊢
 clear hA
 have HL1:=Aside0.mk (HL.out.below HB1)
 have hC:∀ W,Kd.string.C W A 2 exU.f4→Kd.C k41 (W.alloc (.cells #[.int .i64 0,.int .i64 1,.int .i64 0,.int .i64 1,.slice A 2 2] 41 (0,0))) (some ⟨W.heap.size,0,none⟩) 1 [exU]:=fun W h=>C_newH W exU A 2 (Nat.le_refl _) h
 have hF:∀ x ∈ [exU],FewH x∧∀ s ∈ x.f4,s.size≤499:=by
  intro x hx
  obtain rfl:=List.mem_singleton.1 hx
  refine ⟨by decide,fun s hs=>?_⟩
  simp only [exU,List.mem_cons,List.not_mem_nil,or_false] at hs
  rcases hs with rfl|rfl
  ·show 3≤499;omega
  ·show 2≤499;omega
 have CP:=Aside0.mk (show Calls Tryd.prog 10 #[.slice (some ⟨W1.heap.size,0,none⟩) 1 1] (W1.alloc (.cells #[.int .i64 0,.int .i64 1,.int .i64 0,.int .i64 1,.slice A 2 2] 41 (0,0))) fun e w'=>e=.returned (.string (printL canH [exU] ⟨#[]⟩))∧Below (W1.alloc (.cells #[.int .i64 0,.int .i64 1,.int .i64 0,.int .i64 1,.slice A 2 2] 41 (0,0))).heap.size (W1.alloc (.cells #[.int .i64 0,.int .i64 1,.int .i64 0,.int .i64 1,.slice A 2 2] 41 (0,0))) w' from printU_calls (some ⟨W1.heap.size,0,none⟩) 1 [exU] (W1.alloc (.cells #[.int .i64 0,.int .i64 1,.int .i64 0,.int .i64 1,.slice A 2 2] 41 (0,0))) (HL1.out.below (below_alloc (Below.refl _ _) _)) (hC W1 HS1.out) (by decide) (by decide) hF)
 rw [print_ex] at CP
 have HB2:=Aside0.mk (below_alloc HB1 (.cells #[.int .i64 0,.int .i64 1,.int .i64 0,.int .i64 1,.slice A 2 2] 41 (0,0)))
 have HK2:=Aside0.mk (below_alloc (Below.refl W1.heap.size W1) (.cells #[.int .i64 0,.int .i64 1,.int .i64 0,.int .i64 1,.slice A 2 2] 41 (0,0)))
 have z0:W1.cell? ⟨g,0,none⟩=some (.int .i64 0):=(blk_cell HBX.out 0).trans rfl
 have z1:W1.cell? ⟨g,1,none⟩=some (.int .i64 1):=(blk_cell HBX.out 1).trans rfl
 have z2:W1.cell? ⟨g,2,none⟩=some (.int .i64 0):=(blk_cell HBX.out 2).trans rfl
 have z3:W1.cell? ⟨g,3,none⟩=some (.int .i64 1):=(blk_cell HBX.out 3).trans rfl
 have z4:W1.cell? ⟨g,4,none⟩=some (.slice A 2 2):=(blk_cell HBX.out 4).trans rfl
 obtain ⟨T,hT⟩:∃ T,T=exUT:=⟨_,rfl⟩
 rw [← hT] at CP
 have hP:parseU T=([exU],0,0):=by rw [hT,parse_ex]
 have f1:(T.toList == [64,64,32,45,49,44,49,32,43,49,44,49,32,64,64,10,45,97,10,43,98,10,92,32,78,111,32,110,101,119,108,105,110,101,32,97,116,32,101,110,100,32,111,102,32,102,105,108,101,10])=true:=by rw [hT];decide +kernel
 have hTs:T.size≤1073741824:=by rw [hT];decide
 clear hT
 have CQ:=Aside0.mk (show ∀ W,LaidU W→Calls Tryd.prog 12 #[.string T] W fun e w'=>∃ B c,e=.returned (.tuple #[.slice B 1 c,.int .i64 0,.int .i64 0])∧1≤c∧Kd.C k41 w' B 1 [exU]∧Below W.heap.size W w' from fun W h=>by
  have h1:=parse_calls T hTs W h
  unfold ParseEnd at h1
  rw [hP] at h1
  exact h1)
 have CX:=Aside0.mk (show ∀ W,LaidU W→Calls Tryd.prog 12 #[.string ⟨#[120]⟩] W fun e w'=>∃ B c,e=.returned (.tuple #[.slice B 0 c,.int .i64 1,.int .i64 3])∧Below W.heap.size W w' from fun W h =>
  (parse_calls (⟨#[120]⟩:ByteArray) (by decide) W h).mono fun e w' ⟨B,c,h1,_,_,h2⟩=>⟨B,c,by rw [h1,parse_x];rfl,h2⟩)
 clear hP hTs HB1
 go_upto_region 3 with (go_at_call 10;(with_reducible refine CP.out.mono ?_);rintro e w2 ⟨rfl,hb⟩;have HB3:=Aside0.mk (below_step HB2.out hb);have HK3:=Aside0.mk (below_step HK2.out hb);clear hb)
 have HL3:=Aside0.mk (HL.out.below HB3.out)
 go_upto_region 4 with (go_at_call 12;(with_reducible refine (CQ.out _ HL3.out).mono ?_);rintro e w3 ⟨B3,c3,rfl,hc3,hr3,hb⟩;have HC3:=Aside0.mk hc3;have HR3:=Aside0.mk hr3;have HB4:=Aside0.mk (below_step HB3.out hb);have HK4:=Aside0.mk (below_step HK3.out hb);clear hb hc3 hr3)
 have HL4:=Aside0.mk (HL.out.below HB4.out)
 go_upto_region 5 with (go_at_call 12;(with_reducible refine (CX.out _ HL4.out).mono ?_);rintro e w4 ⟨B4,c4,rfl,hb⟩;have HB5:=Aside0.mk (below_step HB4.out hb);have HK5:=Aside0.mk (below_step HK4.out hb);have HR4:=Aside0.mk (Kd.C_below HR3.out hb);clear hb)
 have y0:=pw_cell_below HK5.out z0
 have y1:=pw_cell_below HK5.out z1
 have y2:=pw_cell_below HK5.out z2
 have y3:=pw_cell_below HK5.out z3
 have y4:=pw_cell_below HK5.out z4
 clear z0 z1 z2 z3 z4
 have HS5:=Aside0.mk (Kd.C_below HS1.out HK5.out)
 obtain ⟨ks,hks⟩:=(SameH_ev [exU] (by decide) (by decide)).rounds
 have CS:=Aside0.mk (show Calls Tryd.prog 14 #[.slice B3 1 c3,.slice (some ⟨w4.heap.size,0,none⟩) 1 1] (w4.alloc (.cells #[.int .i64 0,.int .i64 1,.int .i64 0,.int .i64 1,.slice A 2 2] 41 (0,0))) fun e w'=>e=.returned (.bool true)∧Below (w4.alloc (.cells #[.int .i64 0,.int .i64 1,.int .i64 0,.int .i64 1,.slice A 2 2] 41 (0,0))).heap.size (w4.alloc (.cells #[.int .i64 0,.int .i64 1,.int .i64 0,.int .i64 1,.slice A 2 2] 41 (0,0))) w' from
  r05_Same.calls ks B3 c3 [exU] (some ⟨w4.heap.size,0,none⟩) 1 [exU] true (w4.alloc (.cells #[.int .i64 0,.int .i64 1,.int .i64 0,.int .i64 1,.slice A 2 2] 41 (0,0))) (Kd.C_alloc HR4.out _) HC3.out (hC w4 HS5.out) (by decide) hks)
 have HB6:=Aside0.mk (below_alloc HB5.out (.cells #[.int .i64 0,.int .i64 1,.int .i64 0,.int .i64 1,.slice A 2 2] 41 (0,0)))
 clear hks hC hF
 go_wp2_with (go_at_call 14;(with_reducible refine CS.out.mono ?_);rintro e w5 ⟨rfl,hb⟩;have HB7:=Aside0.mk (below_step HB6.out hb);clear hb)
 go_ret
 exact ⟨rfl,HB7.out⟩
end Go.Proofs.YtamojbfmphainaaDoor.Pr
-- shrunk
/-
UnifiedPrints, walked.
-/
namespace Go.Proofs.YtamojbfmphainaaDoor.Pr
open Go.RowKit Go.Proofs.YtamojbfmphainaaDoorW.PrintWords Go.Proofs.YtamojbfmphainaaDoorW.PrintLast Go.Proofs.YtamojbfmphainaaDoorW.PrintMore
end Go.Proofs.YtamojbfmphainaaDoor.Pr
-- shrunk
/-
UnifiedBack, walked.
-/
namespace Go.Proofs.YtamojbfmphainaaDoor.Pr
open Go.RowKit Go.Proofs.YtamojbfmphainaaDoorW.PrintWords Go.Proofs.YtamojbfmphainaaDoorW.PrintLast Go.Proofs.YtamojbfmphainaaDoorW.PrintMore
theorem printC_calls (A:Option Addr) (c:Nat) (l:List S41) (w:World) (hL:LaidU w) (hr:Kd.C k41 w A l.length l) (hc:l.length≤c) (h:∀ x ∈ l,canH x=true) (h1:l.length≤1024) (h2:∀ x ∈ l,x.f4.length≤1024∧∀ s ∈ x.f4,s.size≤1048576) :
  Calls Tryd.prog 10 #[.slice A l.length c] w fun e w'=>e=.returned (.string (printL canH l ⟨#[]⟩))∧Below w.heap.size w w' :=
 print_calls canH A c l w hL hr hc
  (fun x hx=>by
   obtain ⟨ho,_⟩:=canH_ok (h x hx)
   obtain ⟨a0,a1,b0,b1,c0,c1,d0,d1⟩:=ho
   unfold firstI at a1 c1
   exact ucan_ev x ⟨by split at a1<;>omega,by omega,by split at c1<;>omega,by omega⟩ (by have:=(h2 x hx).1;omega) (fun s hs=>by have:=(h2 x hx).2 s hs;omega))
  (fun x hx _=>by
   obtain ⟨ho,_⟩:=canH_ok (h x hx)
   obtain ⟨a0,a1,b0,b1,c0,c1,d0,d1⟩:=ho
   unfold firstI at a1 c1
   exact ⟨a0,by split at a1<;>omega,b0,by omega,c0,by split at c1<;>omega,d0,by omega⟩)
  h1 h2
theorem body_le:∀ (r:List ByteArray),(∀ s ∈ r,s.size≤499)→(bytesL (bodyT r)).length≤r.length * 530
 | [],_=>Nat.zero_le _
 | s :: r,h=>by
  have ih:=body_le r (fun u hu=>h u (List.mem_cons_of_mem _ hu))
  have h0:=h s List.mem_cons_self
  have e0:s.data.toList.length=s.size:=rfl
  have e1:(bytesL (if closedL s.data.toList=true then [s] else [s++(⟨#[10]⟩:ByteArray),openB])).length≤530:=by
   split
   ·simp only [bytesL_cons,List.length_append];show _+0≤_;omega
   ·simp only [bytesL_cons,List.length_append,ByteArray.data_append,Array.toList_append];show _+1+(28+0)≤_;omega
  rw [bodyT,bytesL_append,List.length_append,List.length_cons]
  omega
theorem parseOk_calls (s:ByteArray) (hs:s.size≤1073741824) (a:List S41) (n e0:Int) (h:parseU s=(a,n,e0)) (W:World) (hL:LaidU W) :
  Calls Tryd.prog 12 #[.string s] W fun e w'=>∃ B c,e=.returned (.tuple #[.slice B a.length c,.int .i64 n,.int .i64 e0])∧a.length≤c∧Kd.C k41 w' B a.length a∧Below W.heap.size W w':=by
 have h1:=parse_calls s hs W hL
 unfold ParseEnd at h1
 rw [h] at h1
 exact h1
end Go.Proofs.YtamojbfmphainaaDoor.Pr
-- shrunk
/-
What Make makes of what is between two texts can be told, in plain Lean.
-/
namespace Go.Proofs.YtamojbfmphainaaDoor.Pr
open Go.RowKit Go.Proofs.YtamojbfmphainaaDoorW.PrintWords Go.Proofs.YtamojbfmphainaaDoorW.PrintLast Go.Proofs.YtamojbfmphainaaDoorW.PrintMore
def SgOf (a:List ByteArray) (l:List Ed) (u:ByteArray):Prop:=∃ (c:UInt8) (s:ByteArray),(c=32∨c=43∨c=45)∧u=sg c s∧(s ∈ a∨∃ e ∈ l,s ∈ e.f2)
theorem blkLines_mem:∀ (bs:List Blk) (t:List ByteArray) (u:ByteArray),u ∈ blkLines bs t→∃ (c:UInt8) (s:ByteArray),(c=32∨c=43∨c=45)∧u=sg c s∧(s ∈ t∨∃ b ∈ bs,s ∈ b.k∨s ∈ b.d∨s ∈ b.i)
 | [],t,u,h=>by
  obtain ⟨s,hs,rfl⟩:=List.mem_map.1 h
  exact ⟨32,s,.inl rfl,rfl,.inl hs⟩
 | b :: bs,t,u,h=>by
  rw [blkLines] at h
  rcases List.mem_append.1 h with h|h
  ·obtain ⟨s,hs,rfl⟩:=List.mem_map.1 h
   exact ⟨32,s,.inl rfl,rfl,.inr ⟨b,List.mem_cons_self,.inl hs⟩⟩
  ·rcases List.mem_append.1 h with h|h
   ·obtain ⟨s,hs,rfl⟩:=List.mem_map.1 h
    exact ⟨45,s,.inr (.inr rfl),rfl,.inr ⟨b,List.mem_cons_self,.inr (.inl hs)⟩⟩
   ·rcases List.mem_append.1 h with h|h
    ·obtain ⟨s,hs,rfl⟩:=List.mem_map.1 h
     exact ⟨43,s,.inr (.inl rfl),rfl,.inr ⟨b,List.mem_cons_self,.inr (.inr hs)⟩⟩
    ·obtain ⟨c,s,hc,e,hm⟩:=blkLines_mem bs t u h
     exact ⟨c,s,hc,e,hm.imp id (fun ⟨b',hb,h⟩=>⟨b',List.mem_cons_of_mem _ hb,h⟩)⟩
theorem blks_mem (a:List ByteArray):∀ (l:List Ed) (t:Nat) (b:Blk),b ∈ blks a t l→(∀ s ∈ b.k,s ∈ a)∧(∀ s ∈ b.d,s ∈ a)∧∀ s ∈ b.i,∃ e ∈ l,s ∈ e.f2
 | [],t,b,h=>by cases h
 | e :: l,t,b,h=>by
  rw [blks] at h
  rcases List.mem_cons.1 h with rfl|h
  ·exact ⟨fun s hs=>List.mem_of_mem_take (List.mem_of_mem_drop hs),fun s hs=>List.mem_of_mem_take (List.mem_of_mem_drop hs),fun s hs=>⟨e,List.mem_cons_self,hs⟩⟩
  ·obtain ⟨h1,h2,h3⟩:=blks_mem a l _ b h
   exact ⟨h1,h2,fun s hs=>by obtain ⟨e',he,hs⟩:=h3 s hs;exact ⟨e',List.mem_cons_of_mem _ he,hs⟩⟩
theorem linesH_mem (a:List ByteArray) (ar:Int) (p:Ed) (l:List Ed):∀ u ∈ linesH a ar p l,SgOf a (p :: l) u:=by
 intro u hu
 obtain ⟨c,s,hc,e,hm⟩:=blkLines_mem _ _ u hu
 refine ⟨c,s,hc,e,?_⟩
 rcases hm with hm|⟨b,hb,hm⟩
 ·exact .inl (List.mem_of_mem_take (List.mem_of_mem_drop hm))
 ·obtain ⟨h1,h2,h3⟩:=blks_mem a _ _ b hb
  rcases hm with hm|hm|hm
  ·exact .inl (h1 s hm)
  ·exact .inl (h2 s hm)
  ·exact .inr (h3 s hm)
theorem sg_noNl {c:UInt8} {s:ByteArray} (hc:c=32∨c=43∨c=45) (h:noNl s=true):noNl (sg c s)=true:=by
 have h1:¬ (10:UInt8) ∈ s.data.toList.dropLast:=of_decide_eq_true h
 refine decide_eq_true ?_
 have e:(sg c s).data.toList=c :: s.data.toList:=by
  unfold sg;rw [ByteArray.data_append,Array.toList_append];rfl
 rw [e]
 rcases hs:s.data.toList with _|⟨b,r⟩
 ·simp
 ·rw [hs] at h1
  rw [List.dropLast_cons_of_ne_nil (by simp)]
  intro hm
  rcases List.mem_cons.1 hm with e|hm
  ·rcases hc with rfl|rfl|rfl<;>exact absurd e (by decide)
  ·exact h1 hm
structure MkOk (a:List ByteArray) (more:Int) (l:List Ed) (h:Hk):Prop where
 b0:h.f0≤a.length
 b1:h.f1≤a.length
 b2:h.f2≤a.length+more+insE l
 b3:h.f3≤a.length+insE l
 b4:(h.f4.length:Int)≤3 * a.length+insE l
 ln:∀ u ∈ h.f4,SgOf a l u
theorem makeH_all (a:List ByteArray) (ar:Int) (har:0≤ar):∀ (N:Nat) (l:List Ed) (more fr:Int),l.length≤N→0≤fr→okFrom fr a.length l=true→∀ h ∈ makeH a ar more l,MkOk a more l h:=by
 intro N
 induction N with
 | zero =>
  intro l more fr hN hf ho h hh
  have e:l=[]:=List.eq_nil_of_length_eq_zero (by omega)
  subst e
  rw [makeH] at hh
  cases hh
 | succ N ih =>
  intro l more fr hN hf ho h hh
  cases l with
  | nil=>rw [makeH] at hh;cases hh
  | cons p l =>
   have happ:=grp_app ar l p
   have hsp:=okFrom_split (many:=a.length) (grp ar p l).1 p (grp ar p l).2 fr (by rw [happ];exact ho)
   have hlen:=congrArg List.length happ
   have hin:insE (p :: l)=insE (p :: (grp ar p l).1)+insE (grp ar p l).2:=by rw [← insE_app,List.cons_append,happ]
   have hd1:=delE_le _ _ _ hsp.1
   have hdf:=diffE_eq (p :: (grp ar p l).1)
   have hla:=okFrom_last _ _ _ hsp.1
   have htl:=tail_len a ar p (grp ar p l).1 fr har hf hsp.1
   rw [List.length_append] at hlen
   simp only [List.length_cons] at hN
   have hmem:∀ e ∈ p :: (grp ar p l).1,e ∈ p :: l:=fun e he=>by
    rw [← happ]
    rcases List.mem_cons.1 he with rfl|he
    ·simp
    ·simp [he]
   have hmem2:∀ e ∈ (grp ar p l).2,e ∈ p :: l:=fun e he=>by
    rw [← happ];simp [he]
   obtain ⟨c1,c2,c3,c4,c5,ho'⟩:=okFrom_cons ho
   have hfp:(fromH p ar:Int)≤p.f0:=by unfold fromH;omega
   rw [makeH] at hh
   rcases List.mem_cons.1 hh with rfl|hh
   ·have ho0:okFrom p.f0 a.length (p :: (grp ar p l).1)=true:=by
     obtain ⟨d1,d2,d3,d4,d5,do'⟩:=okFrom_cons hsp.1
     simp only [okFrom,Bool.and_eq_true,decide_eq_true_eq]
     exact ⟨⟨Int.le_refl _,d2,d3,d4,d5⟩,do'⟩
    have hco:=blks_counts a (grp ar p l).1 p p.f0 (fromH p ar) hfp ho0
    have hbl:=blkLines_len (blks a (fromH p ar) (p :: (grp ar p l).1)) ((a.take (toH a p (grp ar p l).1 ar)).drop (endE p (grp ar p l).1).toNat)
    refine ⟨?_,?_,?_,?_,?_,?_⟩
    ·simp only [hunkOf];omega
    ·simp only [hunkOf];omega
    ·simp only [hunkOf];omega
    ·simp only [hunkOf];omega
    ·show ((linesH a ar p (grp ar p l).1).length:Int)≤_
     unfold linesH
     omega
    ·intro u hu
     obtain ⟨c,s,hc,e,hm⟩:=linesH_mem a ar p _ u hu
     exact ⟨c,s,hc,e,hm.imp id (fun ⟨e',he,hs⟩=>⟨e',hmem e' he,hs⟩)⟩
   ·obtain ⟨b0,b1,b2,b3,b4,ln⟩:=ih _ _ (endE p (grp ar p l).1+1) (by omega) (by omega) hsp.2 h hh
    refine ⟨b0,b1,by omega,by omega,by omega,fun u hu=>?_⟩
    obtain ⟨c,s,hc,e,hm⟩:=ln u hu
    exact ⟨c,s,hc,e,hm.imp id (fun ⟨e',he,hs⟩=>⟨e',hmem2 e' he,hs⟩)⟩
theorem chain_right {many:Int}:∀ (hs:List Hk) (en:Int) (f:Bool) (r tr:List Ed),Chain many en f hs r tr→∀ h ∈ hs,Ev (fun k=>hunk_Right.f k h.f0 h.f1 h.f2 h.f3 h.f4) true
 | [],en,f,r,tr,_=>fun h hh=>by cases hh
 | x :: hs,en,f,r,tr,hc=>fun h hh=>by
  obtain ⟨g,r',tg,tr',_,_,hF,_,_,hc'⟩:=hc
  rcases List.mem_cons.1 hh with rfl|hh
  ·exact hF.right
  ·exact chain_right hs _ _ _ _ hc' h hh
theorem ev_eq {α:Type} {g:Nat→Option α} {x y:α} (h1:Ev g x) (h2:Ev g y):x=y:=by
 obtain ⟨k1,h1⟩:=h1
 obtain ⟨k2,h2⟩:=h2
 exact Option.some.inj ((h1 (k1+k2) (by omega)).symm.trans (h2 (k1+k2) (by omega)))
theorem makeH_can (a:List ByteArray) (ar:Int) (l:List Ed) (har:0≤ar) (ha:a.length≤1000) (hi:insE l≤1000) (ho:okFrom 0 a.length l=true) (hza:∀ s ∈ a,noNl s=true) (hzl:∀ e ∈ l,∀ s ∈ e.f2,noNl s=true)
  {many en:Int} {f:Bool} {tr:List Ed} (hc:Chain many en f (makeH a ar 0 l) l tr):∀ h ∈ makeH a ar 0 l,canH h=true:=by
 intro h hh
 obtain ⟨b0,b1,b2,b3,b4,ln⟩:=makeH_all a ar har _ l 0 0 (Nat.le_refl _) (Int.le_refl _) ho h hh
 have hr:=ev_eq (HRight_ev h.f0 h.f1 h.f2 h.f3 h.f4 (by omega)) (chain_right _ _ _ _ _ hc h hh)
 rw [right_same] at hr
 unfold canH bndH
 rw [Bool.and_eq_true,Bool.and_eq_true,List.all_eq_true,decide_eq_true_eq,firstI_lt,firstI_lt]
 refine ⟨fun u hu=>?_,hr,by omega,by omega,by omega,by omega⟩
 obtain ⟨c,s,hcs,rfl,hm⟩:=ln u hu
 refine sg_noNl hcs ?_
 rcases hm with hm|⟨e,he,hm⟩
 ·exact hza s hm
 ·exact hzl e he s hm
theorem linesB_count (s:ByteArray):(linesB s).length≤s.size:=by
 have key:∀ L:List ByteArray,(∀ t ∈ L,noNl t=true∧0<t.size)→L.length≤(bytesL L).length:=by
  intro L
  induction L with
  | nil=>intro _;exact Nat.zero_le _
  | cons t L ih =>
   intro h
   have h1:=(h t List.mem_cons_self).2
   have h2:=ih (fun u hu=>h u (List.mem_cons_of_mem _ hu))
   have e:t.data.toList.length=t.size:=rfl
   rw [bytesL_cons,List.length_append,List.length_cons]
   omega
 have h:=key _ (linesB_ok s)
 rw [linesB_bytes] at h
 exact h
theorem told_le2:∀ (l:List Hk),(∀ x ∈ l,canH x=true)→(∀ x ∈ l,x.f4.length≤1000∧∀ s ∈ x.f4,s.size≤499)→(bytesL (toldL l)).length≤l.length * 600000
 | [],_,_=>Nat.zero_le _
 | x :: l,h,hF=>by
  have ih:=told_le2 l (fun y hy=>h y (List.mem_cons_of_mem _ hy)) (fun y hy=>hF y (List.mem_cons_of_mem _ hy))
  obtain ⟨h30,h499⟩:=hF x List.mem_cons_self
  have hb:=body_le x.f4 h499
  obtain ⟨ho,_⟩:=canH_ok (h x List.mem_cons_self)
  obtain ⟨a0,a1,b0,b1,c0,c1,d0,d1⟩:=ho
  unfold firstI at a1 c1
  have s1:(fromB x.f0 x.f1).size≤50:=fromB_size a0 (by split at a1<;>omega) b0 (by omega)
  have s2:(fromB x.f2 x.f3).size≤50:=fromB_size c0 (by split at c1<;>omega) d0 (by omega)
  have e1:(fromB x.f0 x.f1).data.toList.length=(fromB x.f0 x.f1).size:=rfl
  have e2:(fromB x.f2 x.f3).data.toList.length=(fromB x.f2 x.f3).size:=rfl
  have e:toldL (x :: l)=headOf x :: (bodyT x.f4++toldL l):=rfl
  have hh:(headOf x).data.toList.length≤200:=by
   rw [headOf_bytes];simp only [List.length_append,List.length_cons,List.length_nil];omega
  rw [e,bytesL_cons,bytesL_append,List.length_append,List.length_append,List.length_cons]
  omega
structure WholeF (A B:List ByteArray) (ar:Int):Prop where
 diff:diff_Diff.f A B=some (between A B)
 make:Ev (fun k=>hunk_Make.f k A (between A B) ar) (makeH A ar 0 (between A B),0)
 can:∀ h ∈ makeH A ar 0 (between A B),canH h=true
 many:(makeH A ar 0 (between A B)).length≤200
 size:∀ h ∈ makeH A ar 0 (between A B),h.f4.length≤1000∧∀ s ∈ h.f4,s.size≤499
 text:(printL canH (makeH A ar 0 (between A B)) ⟨#[]⟩).size≤1073741824
 chain:Chain A.length 0 true (makeH A ar 0 (between A B)) (between A B) (turnFrom A 0 (between A B))
 ok:Ok40 (between A B)
 len:(between A B).length≤200
theorem small_mul2 {m n:Nat} (h1:m≤100) (h2:n≤100):m * n≤65536:=by
 have:=Nat.mul_le_mul h1 h2;omega
theorem whole_facts (A B:List ByteArray) (ar:Int) (h0:0≤ar) (h1:ar<10) (ha:A.length≤100) (hb:B.length≤100) (za:∀ s ∈ A,noNl s=true∧s.size≤100) (zb:∀ s ∈ B,noNl s=true∧s.size≤100):WholeF A B ar:=by
 obtain ⟨o1,p1⟩:=between_ok A B
 have hs:=between_size A B (small_mul2 ha hb)
 have hl:=len_le_size _ _ _ o1
 have hi:=insE_le (between A B)
 have hn:=sizeE_nonneg (between A B)
 have hmB:∀ e ∈ between A B,∀ s ∈ e.f2,s ∈ B:=fun e he s hs=>by rw [← p1];exact play_mem A _ 0 e s he hs
 have hza:∀ s ∈ A,s.size≤4611686018427387904:=fun s hs=>by have:=(za s hs).2;omega
 have hzl:∀ e ∈ between A B,∀ s ∈ e.f2,s.size≤4611686018427387904:=fun e he s hs=>by have:=(zb s (hmB e he s hs)).2;omega
 have hc:=makeH_chain A ar (by omega) hza h0 (by omega) _ (between A B) 0 0 0 0 true (Nat.le_refl _) (by omega) hzl (by omega) o1 (by omega) (by omega) (by omega) (by omega) (fun p r h=>⟨by omega,by omega,by simp⟩)
 have hcan:=makeH_can A ar (between A B) h0 (by omega) (by omega) o1 (fun s hs=>(za s hs).1) (fun e he s hs=>(zb s (hmB e he s hs)).1) hc
 have hmany:=makeH_most A ar (between A B)
 have hsz:∀ h ∈ makeH A ar 0 (between A B),h.f4.length≤1000∧∀ s ∈ h.f4,s.size≤499:=fun h hh=>by
  obtain ⟨b0,b1,b2,b3,b4,ln⟩:=makeH_all A ar h0 _ (between A B) 0 0 (Nat.le_refl _) (Int.le_refl _) o1 h hh
  refine ⟨by omega,fun u hu=>?_⟩
  obtain ⟨c,s,hcs,rfl,hm⟩:=ln u hu
  rw [sg_size]
  rcases hm with hm|⟨e,he,hm⟩
  ·have:=(za s hm).2;omega
  ·have:=(zb s (hmB e he s hm)).2;omega
 refine ⟨Diff_some A B (by omega) (by omega),Make_ev A _ ar (by omega) (by omega) hza hzl h0 (by omega) o1 (by omega),hcan,by omega,hsz,?_,hc,⟨by omega,fun e he=>by have:=insE_mem' _ e he;omega⟩,by omega⟩
 have e:(printL canH (makeH A ar 0 (between A B)) ⟨#[]⟩).data.toList.length=(printL canH (makeH A ar 0 (between A B)) ⟨#[]⟩).size:=rfl
 rw [print_bytes canH _ ⟨#[]⟩ hcan,List.length_append] at e
 have h2:=told_le2 _ hcan hsz
 have e0:(⟨#[]⟩:ByteArray).data.toList.length=0:=rfl
 omega
end Go.Proofs.YtamojbfmphainaaDoor.Pr
-- shrunk
/-
UnifiedWhole, walked.
-/
namespace Go.Proofs.YtamojbfmphainaaDoor.Pr
open Go.RowKit Go.Proofs.YtamojbfmphainaaDoorW.PrintWords Go.Proofs.YtamojbfmphainaaDoorW.PrintLast Go.Proofs.YtamojbfmphainaaDoorW.PrintMore
set_option maxRecDepth 100000 in
set_option maxHeartbeats 4000000 in
theorem whole_long (s t:ByteArray) (a:Int) (w:World) (hL:LaidU w) (h:100<s.size∨100<t.size) :
  Calls Tryd.prog 7 #[.string s,.string t,.int .u8 a] w fun e w'=>e=.returned (.bool true)∧Below w.heap.size w w':=by
 have CA:=Aside0.mk (awakeU_calls w hL)
 clear hL
 by_cases h1:100<s.size
 ·have g1:decide (100<s.size)=true:=decide_eq_true h1
  have g3:decide ((100:Int)<(s.size:Int))=true:=decide_eq_true (by omega)
  clear h1 h
  as_aux_lemma =>
   go_enter Tryd.func7,Tryd.ntmps7
   go_wp2_with (go_at_call 8;(with_reducible refine CA.out.mono ?_);rintro e w1 ⟨rfl,hb⟩;have HB1:=Aside0.mk hb;clear hb)
   go_ret
   exact ⟨rfl,HB1.out⟩
 ·have g1:decide (100<s.size)=false:=decide_eq_false h1
  have g2:decide (100<t.size)=true:=decide_eq_true (h.resolve_left h1)
  have g3:decide ((100:Int)<(s.size:Int))=false:=decide_eq_false (by omega)
  have g4:decide ((100:Int)<(t.size:Int))=true:=decide_eq_true (by have:=h.resolve_left h1;omega)
  clear h1 h
  as_aux_lemma =>
   go_enter Tryd.func7,Tryd.ntmps7
   go_wp2_with (go_at_call 8;(with_reducible refine CA.out.mono ?_);rintro e w1 ⟨rfl,hb⟩;have HB1:=Aside0.mk hb;clear hb)
   go_ret
   exact ⟨rfl,HB1.out⟩
set_option maxRecDepth 100000 in
set_option maxHeartbeats 8000000 in
theorem whole_in (s t:ByteArray) (a:Int) (w:World) (hL:LaidU w) (hs:s.size≤100) (ht:t.size≤100) (ha0:0≤a) (ha1:a≤255) :
  Calls Tryd.prog 7 #[.string s,.string t,.int .u8 a] w fun e w'=>e=.returned (.bool true)∧Below w.heap.size w w':=by
 have CA:=Aside0.mk (awakeU_calls w hL)
 have HL:=Aside0.mk hL
 obtain ⟨A,hA⟩:∃ A,A=linesB s:=⟨_,rfl⟩
 obtain ⟨B,hB⟩:∃ B,B=linesB t:=⟨_,rfl⟩
 have hW:=whole_facts A B (a % 10) (by omega) (by omega) (by rw [hA];have:=linesB_count s;omega) (by rw [hB];have:=linesB_count t;omega)
  (fun u hu=>by rw [hA] at hu;have h1:=(linesB_ok s u hu).1;have h2:=(linesB_mem hu).2;exact ⟨h1,by omega⟩) (fun u hu=>by rw [hB] at hu;have h1:=(linesB_ok t u hu).1;have h2:=(linesB_mem hu).2;exact ⟨h1,by omega⟩)
 have CSA:=Aside0.mk (fun W=>lines_Split.calls s A W (by rw [hA];exact Split_some s (by omega)))
 have CSB:=Aside0.mk (fun W=>lines_Split.calls t B W (by rw [hB];exact Split_some t (by omega)))
 obtain ⟨L,hLL⟩:∃ L,L=between A B:=⟨_,rfl⟩
 obtain ⟨H,hH⟩:∃ H,H=makeH A (a % 10) 0 L:=⟨_,rfl⟩
 obtain ⟨f1,f2,f3,f4,f5,f6,f7,f8,f9⟩:=hW
 rw [← hLL] at f1 f2 f3 f4 f5 f6 f7 f8 f9
 rw [← hH] at f2 f3 f4 f5 f6 f7
 have CD:=Aside0.mk (fun A1 c1 A2 c2 W h1 h2 h3 h4=>diff_Diff.calls A1 c1 A A2 c2 B L W h1 h2 h3 h4 f1)
 obtain ⟨km,hkm⟩:=f2.rounds
 have CM:=Aside0.mk (fun A1 c1 P A3 c3 W h1 h2 h3=>hunk_Make.calls km A1 c1 A P A3 c3 L (a % 10) H 0 W h1 h2 h3 hkm)
 obtain ⟨T,hT⟩:∃ T,T=printL canH H ⟨#[]⟩:=⟨_,rfl⟩
 have CP:=Aside0.mk (show ∀ A4 c4 W,LaidU W→Kd.C k41 W A4 H.length H→H.length≤c4→Calls Tryd.prog 10 #[.slice A4 H.length c4] W fun e w'=>e=.returned (.string T)∧Below W.heap.size W w' from fun A4 c4 W h1 h2 h3=>by
  rw [hT];exact printC_calls A4 c4 H W h1 h2 h3 f3 (by omega) (fun x hx=>⟨by have:=(f5 x hx).1;omega,fun u hu=>by have:=(f5 x hx).2 u hu;omega⟩))
 have CQ:=Aside0.mk (parseOk_calls T (by rw [hT];exact f6) H 0 0 (by rw [hT];exact parse_print H f3))
 have g1:decide (100<s.size)=false:=decide_eq_false (by omega)
 have g2:decide (100<t.size)=false:=decide_eq_false (by omega)
 have g3:decide ((100:Int)<(s.size:Int))=false:=decide_eq_false (by omega)
 have g4:decide ((100:Int)<(t.size:Int))=false:=decide_eq_false (by omega)
 have HC:=Aside0.mk f7
 have HOK:=Aside0.mk f8
 have HN:=Aside0.mk (And.intro f4 f9)
 have HSZ:=Aside0.mk f5
 have kq:IntKind.i64.wrap (Int.tmod a 10)=a % 10:=by rw [Int.tmod_eq_emod_of_nonneg ha0];exact IntWalk.i64_in _ (by omega)
 have kr:IntKind.u8.wrap (Int.tmod a 10)=a % 10:=by rw [Int.tmod_eq_emod_of_nonneg ha0];show (a % 10) % 256=a % 10;omega
 have ks:IntKind.i64.wrap (a % 10)=a % 10:=IntWalk.i64_in _ (by omega)
 clear hL hA hB hLL hH hT f1 f2 f3 f4 f5 f6 f7 f8 f9 hkm hs ht ha0 ha1
 go_enter Tryd.func7,Tryd.ntmps7
 go_upto_block 0 with (first
  | (go_at_call 8;(with_reducible refine CA.out.mono ?_);rintro e w1 ⟨rfl,hb⟩;have HB1:=Aside0.mk hb;clear hb)
  | (go_at_call 16;(with_reducible refine (CSA.out _).mono ?_);rintro e w2 ⟨v2,rfl,ho,hb⟩;obtain ⟨A2,c2,e2⟩:=Kd.R_slice ho;subst e2;have HA2:=Aside0.mk (Kd.R_reads' ho).2;have HB2:=Aside0.mk (below_step HB1.out hb);clear ho hb)
  | (go_at_call 16;(with_reducible refine (CSB.out _).mono ?_);rintro e w3 ⟨v3,rfl,ho,hb⟩;obtain ⟨A3,c3,e3⟩:=Kd.R_slice ho;subst e3;have HD3:=Aside0.mk (Kd.R_reads' ho).2;have HA3:=Aside0.mk (Kd.C_below HA2.out.2 hb);have HB3:=Aside0.mk (below_step HB2.out hb);clear ho hb)
  | (go_at_call 17;(with_reducible refine (CD.out _ _ _ _ _ HA3.out HA2.out.1 HD3.out.2 HD3.out.1).mono ?_);rintro e w4 ⟨v4,rfl,ho,hb⟩;obtain ⟨A4,c4,e4⟩:=Kd.S_slice ho;subst e4;have HF4:=Aside0.mk (Kd.S_F ho);have HR4:=Aside0.mk (Kd.S_reads' ho).2;have HA4:=Aside0.mk (Kd.C_below HA3.out hb);have HB4:=Aside0.mk (below_step HB3.out hb);clear ho hb)
  | (go_at_call 18;(with_reducible refine (CM.out _ _ (fun _=>True) _ _ _ HA4.out HA2.out.1 (Kd.V_mk HR4.out.1 HF4.out)).mono ?_);rintro e w5 ⟨v5,rfl,ho,hb⟩;obtain ⟨A5,c5,e5⟩:=Kd.S_slice ho;subst e5;have HR5:=Aside0.mk (Kd.S_reads' ho).2;have HR45:=Aside0.mk (Kd.C_below HR4.out.2 hb);have HB5:=Aside0.mk (below_step HB4.out hb);have HL5:=Aside0.mk (HL.out.below HB5.out);clear ho hb)
  | (go_at_call 10;(with_reducible refine (CP.out _ _ _ HL5.out HR5.out.2 HR5.out.1).mono ?_);rintro e w6 ⟨rfl,hb⟩;have HR46:=Aside0.mk (Kd.C_below HR45.out hb);have HB6:=Aside0.mk (below_step HB5.out hb);have HL6:=Aside0.mk (HL.out.below HB6.out);clear hb)
  | (go_at_call 12;(with_reducible refine (CQ.out _ HL6.out).mono ?_);rintro e w7 ⟨A7,c7,rfl,hc7,hr7,hb⟩;have HC7:=Aside0.mk hc7;have HR7:=Aside0.mk hr7;have HR47:=Aside0.mk (Kd.C_below HR46.out hb);have HB7:=Aside0.mk (below_step HB6.out hb);clear hc7 hr7 hb))
 go_wp2_with (fail)
 go_loopg [16,17] H.length (fun kq v16 v17 wr=>∃ (i:Nat) (acc r tr:List Ed) (en:Int) (f:Bool),v17=.int .i64 (i:Int)∧Aside0 (i≤H.length∧H.length≤kq+i)∧Aside0 (acc++r=L)∧Aside0 (Chain A.length en f (H.drop i) r tr)∧Aside0 (Kd.N k72 72 wr w7.heap.size (fun _=>True) v16 acc)∧Aside0 (Below w7.heap.size w7 wr))
 case atStart=>exact ⟨0,[],L,_,0,true,rfl,⟨by omega,by omega⟩,⟨rfl⟩,HC,⟨Kd.N_nil _ _ _ _ _⟩,⟨Below.refl _ _⟩⟩
 case round =>
  obtain ⟨i,acc,r,tr,en,f,rfl,HI,HACC,HCH,HO,HB⟩:=hrel
  by_cases hend:i=H.length
  ·have h2:=HCH.out
   rw [List.drop_of_length_le (by omega)] at h2
   obtain ⟨rfl,_,_⟩:=h2
   have h3:=HACC.out
   rw [List.append_nil] at h3
   subst h3
   obtain ⟨A9,c9,e9,hcc,hC9⟩:=Kd.N_reads HO.out
   clear HO
   subst e9
   have f2:decide (i<H.length)=false:=decide_eq_false (by omega)
   have CS:=Aside0.mk (r04_Same.calls A4 c4 acc A9 c9 acc true wr (Kd.C_below HR47.out HB.out) HR4.out.1 hC9 hcc (by unfold r04_Same.f;rw [if_pos HOK.out];simp))
   clear hcc hC9 hend
   go_wp2_with (go_at_call 20;(with_reducible refine CS.out.mono ?_);rintro e w9 ⟨rfl,hd⟩;have HB9:=Aside0.mk (below_step (below_step HB7.out HB.out) (below_drawn hd));clear hd)
   go_ret
   exact ⟨rfl,HB9.out⟩
  ·have hxl:i<H.length:=by have:=HI.out;omega
   obtain ⟨gk',HGk⟩:∃ m,Aside0 (gk=m+1):=⟨gk - 1,⟨by have:=HI.out;omega⟩⟩
   have f2:decide (i<H.length)=true:=decide_eq_true hxl
   obtain ⟨ad,Ax,cx,ea,y0,y1,y2,y3,y4,hc4,hr4⟩:=at_T41 HR7.out (i:Int) (by omega) (by omega)
   cases ea
   obtain ⟨x,hx⟩:∃ x,x=rd_T41 H (i:Int):=⟨_,rfl⟩
   have hxi:H.drop i=x :: H.drop (i+1):=by rw [hx,rdU_at hxl];exact List.drop_eq_getElem_cons hxl
   rw [← hx] at y0 y1 y2 y3 y4 hc4 hr4
   simp only [Int.toNat_natCast] at y0 y1 y2 y3 y4
   replace y0:=pw_cell_below HB.out y0
   replace y1:=pw_cell_below HB.out y1
   replace y2:=pw_cell_below HB.out y2
   replace y3:=pw_cell_below HB.out y3
   replace y4:=pw_cell_below HB.out y4
   have h2:=HCH.out
   rw [hxi] at h2
   obtain ⟨g,r',tg,tr',rfl,rfl,hF,h5,h6,hc'⟩:=h2
   obtain ⟨ke,hke⟩:=hF.edits.rounds
   have CE:=Aside0.mk (hunk_Edits.calls ke x.f0 x.f1 x.f2 x.f3 _ Ax cx x.f4 g wr (Kd.V_mk hc4 (Kd.C_F Kd.heap_string (Kd.C_below hr4 HB.out))) hke)
   have kx:IntKind.i64.wrap ((i:Int)+1)=(i:Int)+1:=IntWalk.i64_in _ (by have:=HN.out;omega)
   have HLN:=Aside0.mk (show acc.length+g.length≤200 by have h7:=congrArg List.length HACC.out;simp only [List.length_append] at h7;have:=HN.out.2;omega)
   have HAC2:=Aside0.mk (show (acc++g)++r'=L by rw [List.append_assoc];exact HACC.out)
   have HCH2:=Aside0.mk hc'
   have HOB:=Aside0.mk (Kd.N_bound HO.out)
   clear hx hxi hend hF h5 h6 hc' hke hc4 hr4 HCH HACC
   go_wp2_with (first
    | ((with_reducible refine gate_callee (f:=19) rfl ?_);refine goesL_ (some 79) rfl rfl Tryd.func19 (by kernel_rfl) rfl #[.agg #[.int .i64 x.f0,.int .i64 x.f1,.int .i64 x.f2,.int .i64 x.f3,.slice Ax x.f4.length cx]] rfl (by (try simp only [List.map_toArray,List.map_cons,List.map_nil]);first|done|rfl) ?_;(with_reducible refine CE.out.mono ?_);rintro e w8 ⟨v8,rfl,ho,hb⟩;refine ⟨_,rfl,?_⟩;obtain ⟨A8,c8,e8⟩:=Kd.S_slice ho;subst e8;have HF8:=Aside0.mk (Kd.S_F ho);have HO8:=Aside0.mk (Kd.N_below HOB.out hb);have HB8:=Aside0.mk (below_step HB.out hb);clear ho hb)
    | ((with_reducible refine gate_builtin (b:=.append) (xs:=#[.tmp 74,.tmp 79]) rfl ?_);at_builtin;refine Kd.N_append_rows k72 (w0:=w7) w7.heap.size rfl (.tmp 74) (.tmp 79) 35 72 (.agg #[.int .i64 0,.int .i64 0,.slice none 0 0]) 40 rfl (by kernel_rfl) info72 rfl (by decide) (by decide) _ acc g _ _ _ (fun _=>True) (fun k=>wr.heap.size≤k) rfl rfl (Kd.N_mono HO8.out (fun _ _=>trivial)) HF8.out (fun k hk=>⟨trivial,fun e=>by have h9:=HO8.out.1 k e.symm;have:=h9.2;omega⟩) (fun _ _=>trivial) HB8.out HB8.out.size (by have:=HLN.out;simp;omega) ?_;intro v9 w9 ho hb hg hat;have HO9:=Aside0.mk ho;have HB9:=Aside0.mk hb;clear ho hb hg hat))
   go_roundg gk'
   case measure=>have:=HGk.out;omega
   case rel=>exact ⟨i+1,acc++g,r',tr',_,false,by go_num,⟨by have:=HI.out;have:=HGk.out;omega⟩,HAC2,HCH2,HO9,HB9⟩
theorem u8_range {a:Int} (h:(Lit.int .u8 a).wf=true):0≤a∧a≤255:=by
 have e1:IntKind.u8.min=0:=rfl
 have e2:IntKind.u8.max=255:=rfl
 simp [Lit.wf,e1,e2] at h
 omega
theorem whole_law (s t:ByteArray) (a:Int) (w:World) (hL:LaidU w) (ha:(Lit.int .u8 a).wf=true) :
  Calls Tryd.prog 7 #[.string s,.string t,.int .u8 a] w fun e w'=>e=.returned (.bool true)∧Below w.heap.size w w':=by
 obtain ⟨h0,h1⟩:=u8_range ha
 by_cases h:100<s.size∨100<t.size
 ·exact whole_long s t a w hL h
 ·exact whole_in s t a w hL (by omega) (by omega) h0 h1
end Go.Proofs.YtamojbfmphainaaDoor.Pr
-- shrunk
/-
Arguments that are slices of whatever kind, opened, with the sizes of all that is read behind them. General: no program in sight.
-/
namespace Go.Proofs.YtamojbfmphainaaDoor.Pr
open Go.RowKit Go.Proofs.YtamojbfmphainaaDoorW.PrintWords Go.Proofs.YtamojbfmphainaaDoorW.PrintLast Go.Proofs.YtamojbfmphainaaDoorW.PrintMore
open Go.ChangeShapes Go.WideShapes Go.Deep
def Rz (P:Program) {α:Type} (d:Kd α) (S:α→Prop) (t:TypeId):Prop :=
 ∀ (H:Type) (enc:TypeId × Value→H) (w:World) (base:Nat) (spare:Nat→Bool) (held:Bool) (fuel:Nat) (cs:List Value) (x:DataW H × List MemPlace),
  DataW.trod enc P w base spare held fuel t cs=some x→(∀ n ∈ x.1.weights P t,n≤140737488351232)→∃ y,d.K w y cs∧S y
theorem Rz.int {P:Program} {t:TypeId} {k:IntKind} (hu:P.underlying t=some (.int k)):Rz P (Kd.int k) (fun n=>(Lit.int k n).wf=true) t:=fun H enc w base spare held fuel cs x h _=>by
 obtain ⟨n,rfl,_,hw⟩:=DataW.trod_int hu h
 exact ⟨n,rfl,hw⟩
theorem Rz.string {P:Program} {t:TypeId} (hu:P.underlying t=some .string):Rz P Kd.string (fun s=>s.size≤140737488351232) t:=fun H enc w base spare held fuel cs x h hz=>by
 obtain ⟨s,rfl,rfl,_⟩:=DataW.trod_string hu h
 refine ⟨s,rfl,?_⟩
 have:=hz s.data.toList.length (by simp [DataW.weights])
 simpa using this
theorem weights_mem_all {H:Type} {P:Program} {e:TypeId}:∀ {l:List (DataW H)} {d:DataW H},d ∈ l→∀ n ∈ d.weights P e,n ∈ DataW.weightsAll P e l
 | c :: l,d,hd,n,hn=>by
  simp only [DataW.weightsAll,List.mem_append]
  rcases List.mem_cons.1 hd with rfl|hd
  ·exact Or.inl hn
  ·exact Or.inr (weights_mem_all hd n hn)
theorem Rz.slice {P:Program} {α:Type} {d:Kd α} {S:α→Prop} {t e:TypeId} {B:Nat} (hu:P.underlying t=some (.slice e)) (hc:P.cellsOf e=d.sz) (hB:P.bytesOf e=B) (hd:Rz P d S e) :
  Rz P (Kd.slice e d) (fun xs=>xs.length * B≤140737488351232∧∀ y ∈ xs,S y) t:=fun H enc w base spare held fuel cs x h hz=>by
 rcases open_slice hu h with ⟨rfl,_⟩|⟨a,len,cap,m,n,D,Pl,rfl,hb,hl,hm,hmm,rfl,hx⟩
 ·exact ⟨[],⟨none,0,rfl,Nat.le_refl _,rfl,by simp,fun h0=>absurd h0 (Nat.lt_irrefl _)⟩,by simp,by simp⟩
 ·have hlm:len≤m:=by rw [hmm];split<;>omega
  have hw0:len * B≤140737488351232:=by
   have h1:=hz ((((List.range len).map D).length+((List.range (m - len)).map fun j=>D (len+j)).length) * P.bytesOf e) (by simp [DataW.weights,hu])
   rw [hB] at h1
   simp only [List.length_map,List.length_range] at h1
   exact Nat.le_trans (Nat.mul_le_mul_right _ (Nat.le_add_right _ _)) h1
  have hw1:∀ i,i<len→∀ q ∈ (D i).weights P e,q≤140737488351232:=fun i hi q hq=>by
   refine hz q ?_
   simp only [DataW.weights,hu,List.mem_cons,List.mem_append]
   exact Or.inr (Or.inl (weights_mem_all (List.mem_map.2 ⟨i,List.mem_range.2 hi,rfl⟩) q hq))
  have key:∀ k,k≤len→∃ xs:List α,xs.length=k∧(∀ y ∈ xs,S y)∧∀ j p,xs[j]?=some p→∃ c,c.length=d.sz∧d.K w p c∧∀ i u,c[i]?=some u→w.cell? (a.add (j * d.sz+i))=some u:=by
   intro k
   induction k with
   | zero=>exact fun _=>⟨[],rfl,by simp,fun j p hj=>by simp at hj⟩
   | succ k ih =>
    intro hk
    obtain ⟨xs,hxl,hS,hxs⟩:=ih (by omega)
    obtain ⟨cs',h1,h2⟩:=hx k (by omega)
    obtain ⟨y,hy,hSy⟩:=hd H enc w base spare held n cs' _ h2 (hw1 k (by omega))
    obtain ⟨_,hlen,hcell⟩:=World.cells?_some h1
    refine ⟨xs++[y],by simp [hxl],fun z hz=>?_,fun j p hj=>?_⟩
    ·rcases List.mem_append.1 hz with hz|hz
     ·exact hS z hz
     ·rw [List.mem_singleton.1 hz];exact hSy
    by_cases hjk:j<k
    ·rw [List.getElem?_append_left (by omega)] at hj
     exact hxs j p hj
    ·have hj':j=k:=by
      have:j<(xs++[y]).length:=by
       rcases Nat.lt_or_ge j (xs++[y]).length with h|h
       ·exact h
       ·rw [List.getElem?_eq_none h] at hj;cases hj
      simp [hxl] at this;omega
     subst hj'
     rw [List.getElem?_append_right (by omega),hxl,Nat.sub_self] at hj
     obtain rfl:=Option.some.inj hj
     refine ⟨cs',by rw [hlen,hc],hy,fun i u hi=>?_⟩
     have hlt:i<cs'.length:=by
      rcases Nat.lt_or_ge i cs'.length with h|h
      ·exact h
      ·rw [List.getElem?_eq_none h] at hi;cases hi
     rw [← hc,← Deep.add_add,hcell i (by omega),hi]
  obtain ⟨xs,rfl,hS,hxs⟩:=key len (Nat.le_refl _)
  exact ⟨xs,⟨some a,cap,rfl,hl,rfl,by unfold maxLen at hm;omega,fun _=>⟨a,rfl,hxs⟩⟩,hw0,hS⟩
inductive RzF (P:Program):{α:Type}→Kd α→(α→Prop)→Nat→List Field→Prop
 | last {α:Type} {d:Kd α} {S:α→Prop} {f:Field} {off:Nat}:f.offset=off→P.cellsOf f.type=d.sz→Rz P d S f.type→RzF P d S off [f]
 | cons {α β:Type} {a:Kd α} {b:Kd β} {S:α→Prop} {U:β→Prop} {f:Field} {fs:List Field} {off:Nat}:f.offset=off→P.cellsOf f.type=a.sz→Rz P a S f.type→RzF P b U (off+a.sz) fs→RzF P (Kd.pair a b) (fun x=>S x.1∧U x.2) off (f :: fs)
theorem RzF.read {P:Program} {H:Type} {enc:TypeId × Value→H} {w:World} {base:Nat} {spare:Nat→Bool} {held:Bool} {cs:List Value} {α:Type} {d:Kd α} {S:α→Prop} {off:Nat} {fs:List Field} (h:RzF P d S off fs) :
  (∀ f ∈ fs,∃ n x,DataW.trod enc P w base spare held n f.type ((cs.drop f.offset).take (P.cellsOf f.type))=some x∧∀ q ∈ x.1.weights P f.type,q≤140737488351232)→∃ y,d.K w y ((cs.drop off).take d.sz)∧S y:=by
 induction h with
 | last ho hc hr =>
  intro hf
  obtain ⟨n,x,hx,hw⟩:=hf _ (List.mem_singleton.2 rfl)
  rw [ho,hc] at hx
  exact hr H enc w base spare held n _ x hx hw
 | @cons α β a b S U f fs off ho hc hr _ ih =>
  intro hf
  obtain ⟨n,x,hx,hw⟩:=hf _ List.mem_cons_self
  rw [ho,hc] at hx
  obtain ⟨y0,h0,s0⟩:=hr H enc w base spare held n _ x hx hw
  obtain ⟨y1,h1,s1⟩:=ih (fun g hg=>hf g (List.mem_cons_of_mem _ hg))
  refine ⟨(y0,y1),⟨_,_,?_,h0,h1⟩,s0,s1⟩
  show List.take (a.sz+b.sz) _=_
  rw [List.take_add,List.drop_drop]
theorem Rz.struct {P:Program} {α:Type} {d:Kd α} {S:α→Prop} {t:TypeId} {fs:Array Field} (hu:P.underlying t=some (.struct fs)) (hc:P.cellsOf t=d.sz) (hf:RzF P d S 0 fs.toList):Rz P d S t:=fun H enc w base spare held fuel cs x h hz=>by
 obtain ⟨xs,n,_,rfl,hl,hlen,hx⟩:=DataW.trod_struct hu h
 have h2:=hf.read (enc:=enc) (w:=w) (base:=base) (spare:=spare) (held:=held) (cs:=cs) (fun f hm=>by
  obtain ⟨i,hi,he⟩:=List.mem_iff_getElem.1 hm
  have h3:=hx i f (by rw [← he];simp)
  have hi':i<xs.length:=by rw [hlen];simpa using hi
  rw [List.getElem?_eq_getElem hi'] at h3
  refine ⟨n,_,h3,fun q hq=>hz q ?_⟩
  simp only [DataW.weights,hu]
  refine DataW.weights_mem_each (j:=i) (t:=f.type) (d:=xs[i].1) ?_ ?_ q hq
  ·rw [List.getElem?_map,List.getElem?_eq_getElem hi,he];rfl
  ·rw [List.getElem?_map,List.getElem?_eq_getElem hi'];rfl)
 rw [List.drop_zero,List.take_of_length_le (by omega)] at h2
 exact h2
theorem Rz.iso {P:Program} {α β:Type} {d:Kd α} {S:α→Prop} {f:β→α} {t:TypeId} (h:Rz P d S t) (g:∀ y,∃ x,f x=y):Rz P (Kd.iso d f) (fun x=>S (f x)) t:=fun H enc w base spare held fuel cs x hx hz=>by
 obtain ⟨y,hy,hs⟩:=h H enc w base spare held fuel cs x hx hz
 obtain ⟨z,rfl⟩:=g y
 exact ⟨z,hy,hs⟩
theorem Rz.mono {P:Program} {α:Type} {d:Kd α} {S S':α→Prop} {t:TypeId} (h:Rz P d S t) (g:∀ x,S x→S' x):Rz P d S' t:=fun H enc w base spare held fuel cs x hx hz=>by
 obtain ⟨y,hy,hs⟩:=h H enc w base spare held fuel cs x hx hz
 exact ⟨y,hy,g y hs⟩
end Go.Proofs.YtamojbfmphainaaDoor.Pr
-- shrunk
/-
The kinds of the lower layers' arguments, with sizes: lists of texts, edits.
-/
namespace Go.Proofs.YtamojbfmphainaaDoor.Pr
open Go.RowKit Go.Proofs.YtamojbfmphainaaDoorW.PrintWords Go.Proofs.YtamojbfmphainaaDoorW.PrintLast Go.Proofs.YtamojbfmphainaaDoorW.PrintMore
end Go.Proofs.YtamojbfmphainaaDoor.Pr
-- shrunk
/-
The kinds of layer 7's arguments, with sizes: hunks.
-/
namespace Go.Proofs.YtamojbfmphainaaDoor.Pr
open Go.RowKit Go.Proofs.YtamojbfmphainaaDoorW.PrintWords Go.Proofs.YtamojbfmphainaaDoorW.PrintLast Go.Proofs.YtamojbfmphainaaDoorW.PrintMore
end Go.Proofs.YtamojbfmphainaaDoor.Pr
-- shrunk
