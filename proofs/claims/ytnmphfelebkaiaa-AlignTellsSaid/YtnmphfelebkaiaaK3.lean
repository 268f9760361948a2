/-
Several plain texts in one.
-/
import Derived.Laws.EntriesVeiled
import Derived.Test.YtnmphfelebkaiaaK2
import Derived.Test.YtnmphfelebkaiaaK1
import Derived.Test.YtnmphfelebkaiaaK0
set_option linter.unusedVariables false
set_option linter.unusedSimpArgs false
/-
align.Regions: the range over the clusters' iterator, and its contract.
-/
namespace Go.Proofs.Ytnmphfelebkaiaa.Pr
open Go.RowKit Go.Proofs.YtnmphfelebkaiaaW.PrintWords Go.Proofs.YtnmphfelebkaiaaW.PrintLast Go.Proofs.YtnmphfelebkaiaaW.PrintMore
attribute [local go_sem] Oper.semAt_some
theorem clusters_calls (x y:Value) (hx:x.oneCell'=true) (hy:y.oneCell'=true) (w:World) :
  Calls Try.prog 16 #[.agg #[x,y]] w fun e w'=>e=.returned (.func (.func 26) #[] #[.pointer (some ⟨w.heap.size,0,none⟩)])∧w'=w.alloc (.cells #[x,y] 43 (0,0)):=by
 have hmf:∀ (fn:Fn) (first cap:Array Value) (w:World),(Instr.makeFunc fn first cap).run Try.prog w=.ok (.func fn first cap) w:=fun _ _ _ _=>rfl
 go_enter Try.func16,Try.ntmps16
 go_wp2
 go_ret
 exact ⟨rfl,rfl⟩
theorem clusters_own (n:Nat) (hn:1≤n) (B:Nat) (A0:Option Addr) (c0:Nat) (l0:List Ed) (A1:Option Addr) (c1:Nat) (l1:List Ed) (hk0:∀ e ∈ l0,EdOk e) (hk1:∀ e ∈ l1,EdOk e) (hl0:l0.length≤1048576) (hl1:l1.length≤1048576) (hc0:l0.length≤c0) (hc1:l1.length≤c1) :
  SeqOwn Fence.wide n Try.prog 26 #[.pointer (some ⟨B,0,none⟩)] Cl.enc B (clusters l0 l1) (fun W=>W.heap[B]?=some (.cells #[.slice A0 l0.length c0,.slice A1 l1.length c1] 43 (0,0))) (fun W=>Kd.C k52 W A0 l0.length l0∧Kd.C k52 W A1 l1.length l1) :=
 fun l J W hB hJ hE hY h0=>clusters1_in n hn l B A0 c0 l0 A1 c1 l1 hk0 hk1 hl0 hl1 hc0 hc1 J hJ hE hY W hB h0
theorem wpIn_only {F:Fence} {n:Nat} {P:Program} {c:Code} {K:Act→World→Prop} {Q':Exit→Act→World→Prop} {a:Act} {w:World} (h:c.wpIn F n P (Exit.then K (fun _ _ _=>False)) a w):c.wpIn F n P (Exit.then K Q') a w :=
 wpIn_mono h (fun e a w hq=>by cases e<;>first|exact hq|exact hq.elim)
def SmB (x:Int):Prop:=-1099511627776≤x∧x≤1099511627776
structure Fit (la lb:Nat) (s:Rs) (c:Cl):Prop where
 b0:S32B s.last
 b1:S32B (gapR s c).last
 at_:SmB s.at_
 f:SmB c.f
 t:SmB c.t
 m0:SmB c.m0
 m1:SmB c.m1
 len:s.out.length≤1099511627000
 qa:∃ lo n:Nat,(addR (gapR s c).last (c.t - c.f) c.m0 c.m1).f2=⟨(lo:Int),(n:Int)⟩∧lo+n≤la
 qb:∃ lo n:Nat,(addR (gapR s c).last (c.t - c.f) c.m0 c.m1).f3=⟨(lo:Int),(n:Int)⟩∧lo+n≤lb
structure FitE (s:Rs):Prop where
 b0:S32B s.last
 at_:SmB s.at_
 len:s.out.length≤1099511627000
structure RegsOk (o a b:List ByteArray):Prop where
 lo:o.length≤1048576
 la:a.length≤1048576
 lb:b.length≤1048576
 e0:∀ e ∈ between o a,EdOk e
 e1:∀ e ∈ between o b,EdOk e
 n0:(between o a).length≤1048576
 n1:(between o b).length≤1048576
 run:∀ pre c rest,clusters (between o a) (between o b)=pre++c :: rest→Fit a.length b.length (regionsR a b pre) c
 fin:FitE (regionsR a b (clusters (between o a) (between o b)))
open Classical in
noncomputable def align_Regions0.f (o a b:List ByteArray):Option (List S32):=if RegsOk o a b then some (regionsP o a b) else none
theorem Equal_l0 (a b:List ByteArray) (hl:a.length=b.length) (hn:a.length≤4611686018427387904):∀ d i,a.length - i=d→i≤a.length→Ev (fun k=>slices_Equal_string_string.l0 k a b (a.length:Int) (i:Int)) (decide (a.drop i=b.drop i)):=by
 intro d
 induction d with
 | zero =>
  intro i hd hi
  refine Ev.step (fun _=>slices_Equal_string_string.l0.eq_2 ..) ?_
  simp only [if_neg (show ¬ (i:Int)<(a.length:Int) by omega)]
  rw [List.drop_of_length_le (by omega),List.drop_of_length_le (by omega)]
  exact Ev.now _
 | succ d ih =>
  intro i hd hi
  refine Ev.step (fun _=>slices_Equal_string_string.l0.eq_2 ..) ?_
  have h0:i<a.length:=by omega
  have h1:i<b.length:=by omega
  simp only [if_pos (show (i:Int)<(a.length:Int) by omega),if_pos (show 0≤(i:Int) by omega),if_pos (show (i:Int)<(b.length:Int) by omega),rdS_at h0,rdS_at h1,toList_iff,w_succ h0 hn]
  by_cases he:a[i]=b[i]
  ·simp only [if_pos he]
   have h:=ih (i+1) (by omega) (by omega)
   have e:decide (a.drop (i+1)=b.drop (i+1))=decide (a.drop i=b.drop i):=decide_eq_decide.2 (by rw [drop_eq_iff h0 h1];simp [he])
   rw [e] at h
   exact h
  simp only [if_neg he]
  have e:decide (a.drop i=b.drop i)=false:=decide_eq_false (by rw [drop_eq_iff h0 h1];simp [he])
  rw [e]
  exact Ev.now _
theorem Equal_ev (a b:List ByteArray) (hn:a.length≤4611686018427387904):Ev (fun k=>slices_Equal_string_string.f k a b) (decide (a=b)):=by
 unfold slices_Equal_string_string.f
 by_cases hl:a.length=b.length
 ·simp only [if_pos (show (a.length:Int)=(b.length:Int) by omega)]
  have h:=Equal_l0 a b hl hn _ 0 rfl (by omega)
  simpa using h
 simp only [if_neg (show ¬ (a.length:Int)=(b.length:Int) by omega)]
 rw [decide_eq_false (fun h=>hl (by rw [h]))]
 exact Ev.now _
structure RX (w:World) (L O F At Ka Kb B:Nat) (x1 x2:Value) (V0 V1:Value) (e0 e1:List Ed) (at_:Int) (W:World):Prop where
 fB:W.heap[F]?=some (.cells #[.func (.func 14) #[] #[.pointer (some ⟨L,0,none⟩),.pointer (some ⟨O,0,none⟩)]] 37 (0,0))
 atB:W.heap[At]?=some (.cells #[.int .i64 at_] 3 (0,0))
 aB:W.heap[Ka]?=some (.cells #[x1] 22 (0,0))
 bB:W.heap[Kb]?=some (.cells #[x2] 22 (0,0))
 r0:Kd.R k52 52 W w.heap.size (fun _=>True) V0 e0
 r1:Kd.R k52 52 W w.heap.size (fun _=>True) V1 e1
 sz:B<W.heap.size
theorem R_kept {α:Type} {d:Kd α} {e b0:Nat} {v:Value} {xs:List α} {W W':World} (h:Kd.R d e W b0 (fun _=>True) v xs) (hk:∀ k,k<W.heap.size→(∃ q ∈ e :: d.E,∃ cs:Array Value,W.heap[k]?=some (Obj.cells cs q (0,0)))→W'.heap[k]?=W.heap[k]?):Kd.R d e W' b0 (fun _=>True) v xs :=
 Kd.R_mono (Kd.R_move (Kd.R_bound h) (fun k ho=>hk k ho.2.2.1 (by obtain ⟨_,_,_,q,hq,cs,hc⟩:=ho;exact ⟨q,hq,cs,hc⟩))) (fun _ _=>trivial)
theorem RX.move {w:World} {L O F At Ka Kb B:Nat} {x1 x2 V0 V1:Value} {e0 e1:List Ed} {at_:Int} {W W':World} (h:RX w L O F At Ka Kb B x1 x2 V0 V1 e0 e1 at_ W) (hs:W.heap.size≤W'.heap.size)
  (hk:∀ (k:Nat) (cs:Array Value) (q:Nat),W.heap[k]?=some (Obj.cells cs q (0,0))→q≠32→q≠25→q≠43→q≠46→W'.heap[k]?=W.heap[k]?):RX w L O F At Ka Kb B x1 x2 V0 V1 e0 e1 at_ W':=by
 have key:∀ (k:Nat) (cs:Array Value) (q:Nat),W.heap[k]?=some (Obj.cells cs q (0,0))→q≠32→q≠25→q≠43→q≠46→W'.heap[k]?=some (Obj.cells cs q (0,0)):=fun k cs q hc h1 h2 h3 h4=>(hk k cs q hc h1 h2 h3 h4).trans hc
 have kr:∀ k,k<W.heap.size→(∃ q ∈ 52 :: k52.E,∃ cs:Array Value,W.heap[k]?=some (Obj.cells cs q (0,0)))→W'.heap[k]?=W.heap[k]?:=by
  rintro k _ ⟨q,hq,cs,hc⟩
  have hq2:q=52∨q=9:=by simpa [show k52.E=[9] from rfl] using hq
  refine hk k cs q hc ?_ ?_ ?_ ?_<;>rcases hq2 with rfl|rfl<;>decide
 exact ⟨key _ _ _ h.fB (by decide) (by decide) (by decide) (by decide),key _ _ _ h.atB (by decide) (by decide) (by decide) (by decide),key _ _ _ h.aB (by decide) (by decide) (by decide) (by decide),key _ _ _ h.bB (by decide) (by decide) (by decide) (by decide),R_kept h.r0 kr,R_kept h.r1 kr,Nat.lt_of_lt_of_le h.sz hs⟩
theorem RX.below {w:World} {L O F At Ka Kb B:Nat} {x1 x2 V0 V1:Value} {e0 e1:List Ed} {at_:Int} {W W':World} (h:RX w L O F At Ka Kb B x1 x2 V0 V1 e0 e1 at_ W) (hb:Below W.heap.size W W'):RX w L O F At Ka Kb B x1 x2 V0 V1 e0 e1 at_ W' :=
 h.move hb.size (fun k _ _ hc _ _ _ _=>hb.block k (blk_lt hc))
theorem Else.typed {w0:World} {L O:Nat} {last:S32} {v:Value} {out:List S32} {W W':World} (he:Else L O v W W') (h:RB w0 L O last v out W) {k q:Nat} {cs:Array Value} (hc:W.heap[k]?=some (Obj.cells cs q (0,0))) (h1:q≠32) (h2:q≠25):W'.heap[k]?=W.heap[k]? :=
 he.2 k (blk_lt hc) (blk_ne hc h.lastB h1) (blk_ne hc h.outB h2) (row_ne h.row hc h1)
theorem Else.keeps {w0:World} {L O:Nat} {last:S32} {v:Value} {out:List S32} {W W':World} (he:Else L O v W W') (h:RB w0 L O last v out W):KeepsOthers W W':=by
 refine ⟨he.1,fun k o ho hn=>(he.2 k (blk_lt ho) ?_ ?_ ?_).trans ho⟩
 ·rintro rfl;rw [h.lastB] at ho;cases ho;simp [Obj.isCells] at hn
 ·rintro rfl;rw [h.outB] at ho;cases ho;simp [Obj.isCells] at hn
 intro e
 obtain ⟨cs,hc⟩:=Kd.R_typed h.row k e.symm
 rw [hc] at ho;cases ho;simp [Obj.isCells] at hn
theorem keeps_below {W W':World} (hb:Below W.heap.size W W'):KeepsOthers W W':=⟨hb.size,fun k o ho _=>(hb.block k (blk_lt ho)).trans ho⟩
theorem RX.els {w w0:World} {L O F At Ka Kb B:Nat} {x1 x2 V0 V1:Value} {e0 e1:List Ed} {at_:Int} {W W':World} (h:RX w L O F At Ka Kb B x1 x2 V0 V1 e0 e1 at_ W) {last:S32} {v:Value} {out:List S32} (hrb:RB w0 L O last v out W) (he:Else L O v W W'):RX w L O F At Ka Kb B x1 x2 V0 V1 e0 e1 at_ W' :=
 h.move he.1 (fun k cs q hc h1 h2 _ _=>he.typed hrb hc h1 h2)
theorem RX.at_put {w:World} {L O F At Ka Kb B:Nat} {x1 x2 V0 V1:Value} {e0 e1:List Ed} {at_:Int} {W:World} (h:RX w L O F At Ka Kb B x1 x2 V0 V1 e0 e1 at_ W) (t:Int):RX w L O F At Ka Kb B x1 x2 V0 V1 e0 e1 t (W.setCell ⟨At,0,none⟩ (.int .i64 t)):=by
 have key:∀ (k:Nat) (cs:Array Value) (q:Nat),W.heap[k]?=some (Obj.cells cs q (0,0))→q≠3→(W.setCell ⟨At,0,none⟩ (.int .i64 t)).heap[k]?=W.heap[k]?:=fun k cs q hc h1=>Below.heap_setCell W ⟨At,0,none⟩ _ k (blk_ne hc h.atB h1)
 have kr:∀ k,k<W.heap.size→(∃ q ∈ 52 :: k52.E,∃ cs:Array Value,W.heap[k]?=some (Obj.cells cs q (0,0)))→(W.setCell ⟨At,0,none⟩ (.int .i64 t)).heap[k]?=W.heap[k]?:=by
  rintro k _ ⟨q,hq,cs,hc⟩
  have hq2:q=52∨q=9:=by simpa [show k52.E=[9] from rfl] using hq
  refine key k cs q hc ?_
  rcases hq2 with rfl|rfl<;>decide
 exact ⟨(key _ _ _ h.fB (by decide)).trans h.fB,blk_put h.atB 0 _ rfl,(key _ _ _ h.aB (by decide)).trans h.aB,(key _ _ _ h.bB (by decide)).trans h.bB,R_kept h.r0 kr,R_kept h.r1 kr,by simp [World.setCell];exact h.sz⟩
theorem RB.far {w0:World} {L O:Nat} {last:S32} {v:Value} {out:List S32} {W:World} (h:RB w0 L O last v out W) {b t:Nat} {cs:Array Value} (hb:W.heap[b]?=some (.cells cs t (0,0))) (h1:t≠32) (h2:t≠25) (hw:w0.heap.size≤b) (j:Nat) (u:Value):RB w0 L O last v out (W.setCell ⟨b,j,none⟩ u) :=
 ⟨(Below.heap_setCell W ⟨b,j,none⟩ u L (blk_ne h.lastB hb (Ne.symm h1))).trans h.lastB,(Below.heap_setCell W ⟨b,j,none⟩ u O (blk_ne h.outB hb (Ne.symm h2))).trans h.outB,row_far h.row (row_ne h.row hb h1) j u,h.ne,below_set h.bel hw,h.hL,h.hO⟩
structure RI (w:World) (L O F At Ka Kb B:Nat) (x1 x2:Value) (V0 V1:Value) (e0 e1:List Ed) (s:Rs) (W:World):Prop where
 rb:∃ v,RB w L O s.last v s.out W∧some B≠v.ownBlock
 rx:RX w L O F At Ka Kb B x1 x2 V0 V1 e0 e1 s.at_ W
theorem RI.free {w:World} {L O F At Ka Kb B:Nat} {x1 x2 V0 V1:Value} {e0 e1:List Ed} {s:Rs} {W W':World} (h:RI w L O F At Ka Kb B x1 x2 V0 V1 e0 e1 s W) {row:Option Nat} (hg:W.grownBy W' row)
  (hr:∀ r,row=some r→∀ cs t,W.heap[r]?=some (.cells cs t (0,0))→t=43∨t=46) (hb:∀ r,row=some r→w.heap.size≤r):RI w L O F At Ka Kb B x1 x2 V0 V1 e0 e1 s W':=by
 obtain ⟨v,hrb,hnb⟩:=h.rb
 have key:∀ (k:Nat) (cs:Array Value) (q:Nat),W.heap[k]?=some (Obj.cells cs q (0,0))→q≠43→q≠46→W'.heap[k]?=W.heap[k]?:=fun k cs q hc h1 h2=>hg.block k (blk_lt hc) (fun e=>by rcases hr k e.symm cs q hc with h3|h3<;>contradiction)
 refine ⟨⟨v,⟨(key _ _ _ hrb.lastB (by decide) (by decide)).trans hrb.lastB,(key _ _ _ hrb.outB (by decide) (by decide)).trans hrb.outB,R_kept hrb.row (fun k _ h2=>?_),hrb.ne,hrb.bel.grown hg hrb.bel.size hb,hrb.hL,hrb.hO⟩,hnb⟩,h.rx.move hg.size (fun k cs q hc _ _ h3 h4=>key k cs q hc h3 h4)⟩
 obtain ⟨q,hq,cs,hc⟩:=h2
 have hq2:q=32:=by simpa [show k32.E=[] from rfl] using hq
 exact key k cs q hc (by rw [hq2];decide) (by rw [hq2];decide)
theorem cut_calls' (A:Option Addr) (c:Nat) (l p:List ByteArray) (lo n:Nat) (w:World) (hp:p=(l.drop lo).take n) (hm:l.length≤9223372036854775807) (hc:l.length≤c) (h1:lo+n≤l.length) :
  Calls Try.prog 19 #[.slice A l.length c,.agg #[.int .i64 (lo:Int),.int .i64 (n:Int)]] w fun e w'=>(∃ A',e=.returned (.slice A' p.length (c - lo))∧(∀ W,Kd.C Kd.string W A l.length l→Kd.C Kd.string W A' p.length p)∧p.length≤c - lo)∧Below w.heap.size w w':=by
 rw [hp]
 exact cut_calls A c l lo n w hm hc h1
structure Six (w:World) (L O F At Ka Kb:Nat) (x1 x2:Value) (W:World):Prop where
 rb:RB w L O z32 (.slice none 0 0) [] W
 fB:W.heap[F]?=some (.cells #[.func (.func 14) #[] #[.pointer (some ⟨L,0,none⟩),.pointer (some ⟨O,0,none⟩)]] 37 (0,0))
 atB:W.heap[At]?=some (.cells #[.int .i64 0] 3 (0,0))
 aB:W.heap[Ka]?=some (.cells #[x1] 22 (0,0))
 bB:W.heap[Kb]?=some (.cells #[x2] 22 (0,0))
 hAt:w.heap.size≤At
theorem Six.below {w:World} {L O F At Ka Kb:Nat} {x1 x2:Value} {W W1:World} (h:Six w L O F At Ka Kb x1 x2 W) (hb:Below W.heap.size W W1):Six w L O F At Ka Kb x1 x2 W1 :=
 ⟨h.rb.below hb,blk_below h.fB hb,blk_below h.atB hb,blk_below h.aB hb,blk_below h.bB hb,h.hAt⟩
theorem blk_at {W:World} {o:Obj} {k:Nat} (h:k=W.heap.size):(W.alloc o).heap[k]?=some o:=by rw [h];exact blk_new W o
theorem six_laid (w:World) (x1 x2:Value) (L O F At Kb:Nat) (e1:Kb=w.heap.size+1) (e2:O=w.heap.size+2) (e3:L=w.heap.size+3) (e4:F=w.heap.size+4) (e5:At=w.heap.size+5) :
  Six w L O F At w.heap.size Kb x1 x2 ((((((w.alloc (.cells #[x1] 22 (0,0))).alloc (.cells #[x2] 22 (0,0))).alloc (.cells #[.slice none 0 0] 25 (0,0))).alloc (.cells #[.int .i64 0,.int .i64 0,.int .i64 0,.int .i64 0,.int .i64 0,.int .i64 0,.int .i64 0] 32 (0,0))).alloc (.cells #[.func (.func 14) #[] #[.pointer (some ⟨L,0,none⟩),.pointer (some ⟨O,0,none⟩)]] 37 (0,0))).alloc (.cells #[.int .i64 0] 3 (0,0))):=by
 refine ⟨⟨blk_alloc (blk_alloc (blk_at (by simp [World.size_alloc];omega)) _) _,blk_alloc (blk_alloc (blk_alloc (blk_at (by simp [World.size_alloc];omega)) _) _) _,Kd.R_nil _ _ _ _ _,by simp [Value.ownBlock],below_alloc (below_alloc (below_alloc (below_alloc (below_alloc (below_alloc (Below.refl _ _) _) _) _) _) _) _,by omega,by omega⟩,
  blk_alloc (blk_at (by simp [World.size_alloc];omega)) _,blk_at (by simp [World.size_alloc];omega),blk_alloc (blk_alloc (blk_alloc (blk_alloc (blk_alloc (blk_at rfl) _) _) _) _) _,blk_alloc (blk_alloc (blk_alloc (blk_alloc (blk_at (by simp [World.size_alloc];omega)) _) _) _) _,by omega⟩
theorem put_kind {W:World} {b0 g c:Nat} {out:List S32} {r:S32} (h:Kd.R k32 32 W b0 (fun _=>True) (.slice (some ⟨g,0,none⟩) (out.length+1) c) (out++[r])) (k:Int) :
  Kd.R k32 32 (W.setCell ⟨g,out.length * 7,none⟩ (.int .i64 k)) b0 (fun _=>True) (.slice (some ⟨g,0,none⟩) (out.length+1) c) (out++[kinded r k]):=by
 obtain ⟨h0,inner,ho,hr⟩:=h
 obtain ⟨hl,ho⟩:=ho
 have hlen:(out++[r]).length=out.length+1:=by simp
 rw [hlen] at hl ho
 rcases ho with ⟨_,h1⟩|⟨g',cap,cur,he,hg,hh,hn,hcap,hsz,htake⟩
 ·omega
 injection he with e1 e2 e3
 injection e1 with e1
 injection e1 with e1 _ _
 subst e1 e3
 refine ⟨h0,inner.set (out.length * 7) (.int .i64 k),⟨by simp [hl],.inr ⟨g,c,cur.setIfInBounds (out.length * 7) (.int .i64 k),?_,hg,blk_put hh _ _ rfl,?_,hcap,by rw [Array.size_setIfInBounds];exact hsz,?_⟩⟩,?_,?_⟩
 ·simp
 ·simp;omega
 ·have e4:(out++[kinded r k]).length * 7=(out.length+1) * 7:=by simp
  rw [show k32.sz=7 from rfl,e4,Array.toList_setIfInBounds,List.take_set]
  rw [show k32.sz=7 from rfl] at htake
  rw [htake]
 ·have h2:=hr.1
  rw [List.length_set]
  simpa using h2
 intro j p hj
 rw [show k32.sz=7 from rfl]
 by_cases hjn:j<out.length
 ·have h3:=hr.2 j p (by rw [List.getElem?_append_left hjn] at hj ⊢;exact hj)
  rw [show k32.sz=7 from rfl] at h3
  rw [List.drop_set,if_neg (by omega),List.take_set]
  rw [List.set_eq_of_length_le (by rw [List.length_take];omega)]
  exact k32_openM h3 ▸ k32_mkM _ _ _ p
 have hj2:j=out.length:=by
  have:j<(out++[kinded r k]).length:=by
   rcases Nat.lt_or_ge j (out++[kinded r k]).length with h|h
   ·exact h
   rw [List.getElem?_eq_none h] at hj;cases hj
  simp at this
  omega
 subst hj2
 rw [List.getElem?_append_right (Nat.le_refl _),Nat.sub_self] at hj
 obtain rfl:=Option.some.inj hj
 have h3:=hr.2 out.length r (by simp)
 rw [show k32.sz=7 from rfl] at h3
 rw [List.drop_set,if_neg (by omega),Nat.sub_self,List.take_set,k32_openM h3]
 exact k32_mkM _ _ _ (kinded r k)
theorem own_ne {v:Value} {B g c n:Nat} {W:World} (hs:B<W.heap.size) (h:some B≠v.ownBlock) (hg:v.ownBlock=some g∨W.heap.size≤g):some B≠(Value.slice (some ⟨g,0,none⟩) n c).ownBlock:=by
 intro e
 have e2:B=g:=by injection e
 rcases hg with h1|h1
 ·exact h (by rw [h1,e2])
 omega
theorem last_kind {W:World} {b0 g c n:Nat} {out:List S32} {r:S32} (h:Kd.R k32 32 W b0 (fun _=>True) (.slice (some ⟨g,0,none⟩) (n+1) c) (out++[r])) (hn:n=out.length):W.cell? ⟨g,n * 7,none⟩=some (.int .i64 r.f0):=by
 subst hn
 obtain ⟨ad,e,h3,_⟩:=at_T32 (Kd.R_reads' h).2.2 (out.length:Int) (by omega) (by simp;omega)
 injection e with e
 subst e
 have hr:rd_T32 (out++[r]) (out.length:Int)=r:=by simp [rd_T32]
 rw [hr,Int.toNat_natCast,add_plain] at h3
 exact h3
theorem last_cells {W:World} {b0 g c:Nat} {out:List S32} {r:S32} {lo n lo2 n2:Nat} (h:Kd.R k32 32 W b0 (fun _=>True) (.slice (some ⟨g,0,none⟩) (out.length+1) c) (out++[r])) (h2:r.f2=⟨(lo:Int),(n:Int)⟩) (h3:r.f3=⟨(lo2:Int),(n2:Int)⟩) :
  W.cell? ⟨g,out.length * 7+3,none⟩=some (.int .i64 (lo:Int))∧W.cell? ⟨g,out.length * 7+4,none⟩=some (.int .i64 (n:Int))∧W.cell? ⟨g,out.length * 7+5,none⟩=some (.int .i64 (lo2:Int))∧W.cell? ⟨g,out.length * 7+6,none⟩=some (.int .i64 (n2:Int)):=by
 obtain ⟨ad,e,_,_,_,h4,h5,h6,h7⟩:=at_T32 (Kd.R_reads' h).2.2 (out.length:Int) (by omega) (by simp;omega)
 injection e with e
 subst e
 have hr:rd_T32 (out++[r]) (out.length:Int)=r:=by simp [rd_T32]
 rw [hr,Int.toNat_natCast,add_plain] at h4 h5 h6 h7
 rw [h2] at h4 h5
 rw [h3] at h6 h7
 exact ⟨h4,h5,h6,h7⟩
theorem rb_kind {w0:World} {L O:Nat} {r:S32} {out:List S32} {W:World} {g c:Nat} (h:RB w0 L O r (.slice (some ⟨g,0,none⟩) (out.length+1) c) (out++[r]) W) {cs:Array Value} (hg:W.heap[g]?=some (.cells cs 32 (0,0))) (k:Int) :
  RB w0 L O r (.slice (some ⟨g,0,none⟩) (out.length+1) c) (out++[kinded r k]) (W.setCell ⟨g,out.length * 7,none⟩ (.int .i64 k)) :=
 ⟨(Below.heap_setCell W ⟨g,out.length * 7,none⟩ _ L (fun e=>h.ne (by rw [e];rfl))).trans h.lastB,(Below.heap_setCell W ⟨g,out.length * 7,none⟩ _ O (blk_ne h.outB hg (by decide))).trans h.outB,put_kind h.row k,h.ne,below_set h.bel (Kd.R_base h.row g rfl),h.hL,h.hO⟩
theorem noDefer {ops:Array Oper} (h:(ops.all fun o=>match o.op with|.defer _=>false|_=>true)=true):∀ o ∈ ops,∀ c,o.op≠.defer c:=by
 intro o ho c e
 have:=Array.all_eq_true_iff_forall_mem.1 h o ho
 rw [e] at this
 cases this
def greg_5.T5:Bool × List (List Nat × List Nat):=(true,[([],[]),([],[]),([0,1],[0,1]),([],[]),([],[]),([3,4,2],[3,4]),([2,5],[2,5]),([6,5],[6])])
def greg_5.B5:List Nat:=[0,0,3,0,0,31,63,127]
theorem greg_5.tab5:rtab .any (opsOf Try.f9 5)=greg_5.T5:=by kernel_rfl
theorem greg_5.bits5:waitsOk greg_5.T5.2 greg_5.B5=true:=by kernel_rfl
def greg_10.T10:Bool × List (List Nat × List Nat):=(true,[([],[]),([],[]),([],[]),([],[]),([3],[3]),([4],[4]),([5],[5]),([2,6],[2,6]),([],[]),([],[]),([9],[9]),([10],[10]),([11],[11]),([8,12,7],[8,12]),([1,7,13,13],[1,7,13]),([0,0,1,2,3,4,5,6,7,8,9,10,11,12,13,14],[0]),([15,0,1,2,3,4,5,6,7,8,9,10,11,12,13,14],[15]),([16,14,14,0,1,2,3,4,5,6,7,8,9,10,11,12,13,14],[14,16])])
def greg_10.B10:List Nat:=[0,0,0,0,8,24,56,124,0,0,512,1536,3584,8188,16382,32767,65535,131071]
theorem greg_10.tab10:rtab .any (opsOf Try.f9 10)=greg_10.T10:=by kernel_rfl
theorem greg_10.bits10:waitsOk greg_10.T10.2 greg_10.B10=true:=by kernel_rfl
set_option maxRecDepth 100000 in
set_option maxHeartbeats 8000000 in
theorem align_Regions0.calls (A0:Option Addr) (c0:Nat) (l0:List ByteArray) (A1:Option Addr) (c1:Nat) (l1:List ByteArray) (A2:Option Addr) (c2:Nat) (l2:List ByteArray) (r:List S32) (w:World)
  (hr0:Kd.C Kd.string w A0 l0.length l0) (hc0:l0.length≤c0) (hr1:Kd.C Kd.string w A1 l1.length l1) (hc1:l1.length≤c1) (hr2:Kd.C Kd.string w A2 l2.length l2) (hc2:l2.length≤c2) (h:align_Regions0.f l0 l1 l2=some r) :
  Calls Try.prog 9 #[.slice A0 l0.length c0,.slice A1 l1.length c1,.slice A2 l2.length c2] w fun e w'=>∃ v0_:Value,e=.returned (v0_)∧Kd.R k32 32 w' w.heap.size (fun _=>True) v0_ r∧Below w.heap.size w w':=by
 unfold align_Regions0.f at h
 by_cases hok:RegsOk l0 l1 l2
 rotate_left
 ·rw [if_neg hok] at h;cases h
 rw [if_pos hok] at h
 obtain rfl:=Option.some.inj h
 clear h
 have hmf:∀ (fn:Fn) (first cap:Array Value) (w:World),(Instr.makeFunc fn first cap).run Try.prog w=.ok (.func fn first cap) w:=fun _ _ _ _=>rfl
 have hu32:=Try.underlying32
 have hu30:=Try.underlying30
 have hu46:=Try.underlying46
 have hu43:=Try.underlying43
 have hu34:=Try.underlying34
 have HK:=Aside0.mk hok
 have HR0:=Aside0.mk hr0
 have HC0:=Aside0.mk hc0
 have HR1:=Aside0.mk hr1
 have HC1:=Aside0.mk hc1
 have HR2:=Aside0.mk hr2
 have HC2:=Aside0.mk hc2
 clear hok hr0 hc0 hr1 hc1 hr2 hc2
 refine (callsIn_wide (n:=8)).1 ?_
 refine callsIn_of_wp_marks Try.func9 rfl trivial ?_ rfl
 simp only [Try.ntmps9,List.size_toArray,List.length_cons,List.length_nil,Nat.reduceAdd,Nat.reduceSub,Array.replicate_succ,Array.replicate_zero,List.push_toArray,List.append_toArray,List.nil_append,List.cons_append]
 gi_upto_region 5 with (fail)
 have HX:=Aside0.mk (six_laid w (.slice A1 l1.length c1) (.slice A2 l2.length c2) (w.heap.size+1+1+1) (w.heap.size+1+1) (w.heap.size+1+1+1+1) (w.heap.size+1+1+1+1+1) (w.heap.size+1) rfl rfl rfl rfl rfl)
 generalize ((((((w.alloc (.cells #[.slice A1 l1.length c1] 22 (0,0))).alloc (.cells #[.slice A2 l2.length c2] 22 (0,0))).alloc (.cells #[.slice none 0 0] 25 (0,0))).alloc (.cells #[.int .i64 0,.int .i64 0,.int .i64 0,.int .i64 0,.int .i64 0,.int .i64 0,.int .i64 0] 32 (0,0))).alloc (.cells #[.func (.func 14) #[] #[.pointer (some ⟨w.heap.size+1+1+1,0,none⟩),.pointer (some ⟨w.heap.size+1+1,0,none⟩)]] 37 (0,0))).alloc (.cells #[.int .i64 0] 3 (0,0)))=W1 at HX ⊢
 generalize w.heap.size+1+1+1+1+1=At at HX ⊢
 generalize w.heap.size+1+1+1+1=F at HX ⊢
 generalize w.heap.size+1+1+1=L at HX ⊢
 generalize w.heap.size+1+1=O at HX ⊢
 generalize w.heap.size+1=Kb at HX ⊢
 obtain ⟨Ka,hKa⟩:∃ Ka,Ka=w.heap.size:=⟨_,rfl⟩
 rw [← hKa] at HX ⊢
 have HD0:=Aside0.mk (show diff_Diff.f l0 l1=some (between l0 l1) by rw [diff_Diff.f,if_pos ⟨by have:=HK.out.lo;omega,by have:=HK.out.la;omega⟩])
 have HD1:=Aside0.mk (show diff_Diff.f l0 l2=some (between l0 l2) by rw [diff_Diff.f,if_pos ⟨by have:=HK.out.lo;omega,by have:=HK.out.lb;omega⟩])
 obtain ⟨e0,he0⟩:∃ e0,e0=between l0 l1:=⟨_,rfl⟩
 obtain ⟨e1,he1⟩:∃ e1,e1=between l0 l2:=⟨_,rfl⟩
 rw [← he0] at HD0
 rw [← he1] at HD1
 have HE0:=Aside0.mk he0
 have HE1:=Aside0.mk he1
 clear he0 he1 hKa
 have HXa:=Aside0.mk (HX.out.below (below_drew (Below.refl _ _)))
 have za0:W1.drew.cell? ⟨Ka,0,none⟩=some (.slice A1 l1.length c1):=(blk_cell HXa.out.aB 0).trans rfl
 have za1:W1.drew.cell? ⟨Kb,0,none⟩=some (.slice A2 l2.length c2):=(blk_cell HXa.out.bB 0).trans rfl
 refine wpIn_only ?_
 refine wpIn_wide.2 ?_
 refine start_ (n:=8) (S:=fun w'=>w'.cell? ⟨Ka,0,none⟩=some (.slice A1 l1.length c1)∧w'.cell? ⟨Kb,0,none⟩=some (.slice A2 l2.length c2)) (ds:=[]) #[false,false,false,false,false,false,false,false] (by kernel_rfl) rfl rfl ⟨za0,za1⟩ (fun hHeld=>?_)
 refine with_tabW greg_5.tab5 greg_5.bits5 (fun HT_ HW_=>?_)
 generalize W1.drew=W2 at za0 za1 HXa hHeld ⊢
 refine pure_ (i:=0) (N:=some 15) (v:=?_) (a':=?_) #[true,false,false,false,false,false,false,false] rfl rfl (any_of HT_.out (by kernel_rfl)) (fun _ _ _ h=>h) (Or.inl ⟨by rfl,?_⟩) ?_ ?_
 rotate_left
 ·intro w'
  go_simp
  with_reducible rfl
 rotate_left
 ·simp only [Act.put,List.setIfInBounds_toArray,List.set_cons_zero,List.set_cons_succ,i64_w,i32_w]
  rfl
 refine pure_ (i:=3) (N:=some 18) (v:=?_) (a':=?_) #[true,false,false,true,false,false,false,false] rfl rfl (any_of HT_.out (by kernel_rfl)) (fun _ _ _ h=>h) (Or.inl ⟨by rfl,?_⟩) ?_ ?_
 rotate_left
 ·intro w'
  go_simp
  with_reducible rfl
 rotate_left
 ·simp only [Act.put,List.setIfInBounds_toArray,List.set_cons_zero,List.set_cons_succ,i64_w,i32_w]
  rfl
 refine take_ (i:=1) (N:=some 16) (v:=?_) (a':=?_) #[true,true,false,true,false,false,false,false] rfl rfl (take_ofW HT_.out HW_.out (by kernel_rfl)) (fun _ _ _ h=>h) (Or.inl ⟨by rfl,?_⟩) hHeld ?_ ?_
 rotate_left
 ·rintro w' ⟨s0,s1⟩
  go_simp
  with_reducible rfl
 rotate_left
 ·simp only [Act.put,List.setIfInBounds_toArray,List.set_cons_zero,List.set_cons_succ,i64_w,i32_w]
  rfl
 refine take_ (i:=4) (N:=some 19) (v:=?_) (a':=?_) #[true,true,false,true,true,false,false,false] rfl rfl (take_ofW HT_.out HW_.out (by kernel_rfl)) (fun _ _ _ h=>h) (Or.inl ⟨by rfl,?_⟩) hHeld ?_ ?_
 rotate_left
 ·rintro w' ⟨s0,s1⟩
  go_simp
  with_reducible rfl
 rotate_left
 ·simp only [Act.put,List.setIfInBounds_toArray,List.set_cons_zero,List.set_cons_succ,i64_w,i32_w]
  rfl
 refine one_ (i:=2) (N:=some 17) #[true,true,true,true,true,false,false,false] rfl rfl (one_of HT_.out (by kernel_rfl)) (by decide) (fun K hK=>?_)
 refine goes_ Try.func17 (by kernel_rfl) rfl #[.slice A0 l0.length c0,.slice A1 l1.length c1] (by rfl) rfl rfl (by simp only [List.map_toArray,List.map_cons,List.map_nil];rfl) ?_
 with_reducible refine (diff_Diff.calls A0 c0 l0 A1 c1 l1 e0 _ (Kd.C_below HR0.out HXa.out.rb.bel) HC0.out (Kd.C_below HR1.out HXa.out.rb.bel) HC1.out HD0.out).mono ?_
 rintro e w3 ⟨v0,rfl,ho0,hb⟩
 obtain ⟨B0,d0,eo⟩:=Kd.S_slice ho0
 subst eo
 refine ⟨_,rfl,?_⟩
 have R0b:=Aside0.mk (Kd.R_lower (Kd.S_R ho0) HXa.out.rb.bel.size)
 have HXb:=Aside0.mk (HXa.out.below hb)
 have zb0:=pw_cell_below hb za0
 have zb1:=pw_cell_below hb za1
 clear hb ho0
 refine hK.out _ _ ⟨zb0,zb1⟩ (fun hHeld=>?_)
 clear hK K
 refine norm_ (a':=?_) ?_ ?_
 rotate_left
 ·show Act.put _ (some 17) _=_
  simp only [Act.put,List.setIfInBounds_toArray,List.set_cons_zero,List.set_cons_succ,i64_w,i32_w]
  rfl
 refine one_ (i:=5) (N:=some 20) #[true,true,true,true,true,true,false,false] rfl rfl (one_of HT_.out (by kernel_rfl)) (by decide) (fun K hK=>?_)
 refine goes_ Try.func17 (by kernel_rfl) rfl #[.slice A0 l0.length c0,.slice A2 l2.length c2] (by rfl) rfl rfl (by simp only [List.map_toArray,List.map_cons,List.map_nil];rfl) ?_
 with_reducible refine (diff_Diff.calls A0 c0 l0 A2 c2 l2 e1 _ (Kd.C_below HR0.out HXb.out.rb.bel) HC0.out (Kd.C_below HR2.out HXb.out.rb.bel) HC2.out HD1.out).mono ?_
 rintro e w4 ⟨v1,rfl,ho0,hb⟩
 obtain ⟨B1,d1,eo⟩:=Kd.S_slice ho0
 subst eo
 refine ⟨_,rfl,?_⟩
 have R1c:=Aside0.mk (Kd.R_lower (Kd.S_R ho0) HXb.out.rb.bel.size)
 have R0c:=Aside0.mk (Kd.R_below R0b.out hb)
 have HXc:=Aside0.mk (HXb.out.below hb)
 have zc0:=pw_cell_below hb zb0
 have zc1:=pw_cell_below hb zb1
 clear hb ho0
 refine hK.out _ _ ⟨zc0,zc1⟩ (fun hHeld=>?_)
 clear hK K
 refine norm_ (a':=?_) ?_ ?_
 rotate_left
 ·show Act.put _ (some 20) _=_
  simp only [Act.put,List.setIfInBounds_toArray,List.set_cons_zero,List.set_cons_succ,i64_w,i32_w]
  rfl
 refine pure_ (i:=6) (N:=some 21) (v:=?_) (a':=?_) #[true,true,true,true,true,true,true,false] rfl rfl (any_of HT_.out (by kernel_rfl)) (fun _ _ _ h=>h) (Or.inl ⟨by rfl,?_⟩) ?_ ?_
 rotate_left
 ·intro w'
  go_simp
  with_reducible rfl
 rotate_left
 ·simp only [Act.put,List.setIfInBounds_toArray,List.set_cons_zero,List.set_cons_succ,i64_w,i32_w]
  rfl
 refine one_ (i:=7) (N:=some 22) #[true,true,true,true,true,true,true,true] rfl rfl (one_of HT_.out (by kernel_rfl)) (by decide) (fun K hK=>?_)
 refine goes_ Try.func16 (by kernel_rfl) rfl #[.agg #[.slice B0 e0.length d0,.slice B1 e1.length d1]] (by rfl) rfl rfl (by simp only [List.map_toArray,List.map_cons,List.map_nil];rfl) ?_
 with_reducible refine (clusters_calls _ _ rfl rfl _).mono ?_
 rintro e w5 ⟨rfl,rfl⟩
 refine ⟨_,rfl,?_⟩
 have HBX:=Aside0.mk (blk_new w4 (.cells #[.slice B0 e0.length d0,.slice B1 e1.length d1] 43 (0,0)))
 have HXd:=Aside0.mk (HXc.out.below (below_alloc (Below.refl _ _) (.cells #[.slice B0 e0.length d0,.slice B1 e1.length d1] 43 (0,0))))
 have R0d:=Aside0.mk (Kd.R_below R0c.out (below_alloc (Below.refl _ _) (.cells #[.slice B0 e0.length d0,.slice B1 e1.length d1] 43 (0,0))))
 have R1d:=Aside0.mk (Kd.R_below R1c.out (below_alloc (Below.refl _ _) (.cells #[.slice B0 e0.length d0,.slice B1 e1.length d1] 43 (0,0))))
 have HBw:=Aside0.mk HXc.out.rb.bel.size
 have HX4:=HXc
 have HAw:=Aside0.mk HXc.out.hAt
 clear HXc R0c R1c HXb R0b HXa HX
 refine hK.out _ _ ⟨(pw_cell_below (below_alloc (Below.refl _ _) _) zc0),(pw_cell_below (below_alloc (Below.refl _ _) _) zc1)⟩ (fun hHeld=>?_)
 clear hK K
 refine norm_ (a':=?_) ?_ ?_
 rotate_left
 ·show Act.put _ (some 22) _=_
  simp only [Act.put,List.setIfInBounds_toArray,List.set_cons_zero,List.set_cons_succ,i64_w,i32_w]
  rfl
 refine done_ (done_of HT_.out (by kernel_rfl)) ?_

 simp only [Exit.then]
 first|gi_step|go_step
 clear za0 za1 zb0 zb1 zc0 zc1 hHeld
 generalize hB:w4.heap.size=B at HBX ⊢
 generalize w4.alloc (.cells #[.slice B0 e0.length d0,.slice B1 e1.length d1] 43 (0,0))=w5 at HBX HXd R0d R1d ⊢
 have HBL:=Aside0.mk (show L<B∧O<B∧At<B by rw [← hB];exact ⟨blk_lt HX4.out.rb.lastB,blk_lt HX4.out.rb.outB,blk_lt HX4.out.atB⟩)
 rw [hB] at HBw
 clear hB HX4
 gi_wp2
 refine wpIn_rangeFunc_ownC rfl (by omega) (gf:=26) (lb:=#[.pointer (some ⟨B,0,none⟩)]) rfl trivial (enters_of Try.func26 (by kernel_rfl) rfl)
  (clusters_own _ (by omega) B B0 d0 e0 B1 d1 e1 (by rw [HE0.out];exact HK.out.e0) (by rw [HE1.out];exact HK.out.e1) (by rw [HE0.out];exact HK.out.n0) (by rw [HE1.out];exact HK.out.n1) (Kd.R_reads' R0d.out).2.1 (Kd.R_reads' R1d.out).2.1) (blk_lt HBX.out) (fun W hW=>hW.trans HBX.out) (fun _=>rfl)
  (fun pre W=>RI w L O F At Ka Kb B (.slice A1 l1.length c1) (.slice A2 l2.length c2) (.slice B0 e0.length d0) (.slice B1 e1.length d1) e0 e1 (regionsR l1 l2 pre) W)
  (fun s W W' row h hg hr=>h.free hg (fun r e cs t hc=>by obtain ⟨_,o,ho,hn⟩:=hr r e;rw [hc] at ho;cases ho;simp [Obj.isCells] at hn) (fun r e=>Nat.le_trans HXd.out.rb.bel.size (hr r e).1))
  (fun s W W' row h hg hr=>h.free hg (fun r e cs t hc=>by obtain ⟨_,cs',t',h',ht⟩:=hr r e;rw [hc] at h';injection h' with h';injection h' with _ h';rw [h'];exact ht) (fun r e=>Nat.le_trans HBw.out (hr r e).1))
  (fun pre W h=>⟨(Kd.R_reads' h.rx.r0).2.2,(Kd.R_reads' h.rx.r1).2.2⟩)
  ⟨⟨_,HXd.out.rb,by simp [Value.ownBlock]⟩,⟨HXd.out.fB,HXd.out.atB,HXd.out.aB,HXd.out.bB,R0d.out,R1d.out,blk_lt HBX.out⟩⟩
  (fun x=>.cells #[.int .i64 x.f,.int .i64 x.t,.int .i64 x.m0,.int .i64 x.m1,.bool x.h0,.bool x.h1] 46 (0,0))
  (fun x C=>{ tmps:=#[.slice A0 l0.length c0,.slice A1 l1.length c1,.slice A2 l2.length c2,undef,.pointer (some ⟨Ka,0,none⟩),.pointer (some ⟨Kb,0,none⟩),.slice none 0 0,.pointer (some ⟨O,0,none⟩),.pointer (some ⟨L,0,none⟩),.pointer (some ⟨F,0,none⟩),.pointer (some ⟨At,0,none⟩),.pointer (some ⟨C,0,none⟩),undef,.agg #[.int .i64 0,.int .i64 0,.int .i64 0,.int .i64 0,.int .i64 0,.int .i64 0,.int .i64 0],.func (.func 14) #[] #[.pointer (some ⟨L,0,none⟩),.pointer (some ⟨O,0,none⟩)],.slice A0 l0.length c0,.slice A1 l1.length c1,.slice B0 e0.length d0,.slice A0 l0.length c0,.slice A2 l2.length c2,.slice B1 e1.length d1,.agg #[.slice B0 e0.length d0,.slice B1 e1.length d1],.func (.func 26) #[] #[.pointer (some ⟨B,0,none⟩)],.agg #[.int .i64 x.f,.int .i64 x.t,.int .i64 x.m0,.int .i64 x.m1,.bool x.h0,.bool x.h1],undef,undef,undef,undef,undef,undef,undef,undef,undef,undef,undef,undef,undef,undef,undef,undef,undef,undef,undef,undef,undef,undef,undef,undef,undef,undef,undef,undef,undef,undef,undef,undef,undef,undef,undef,undef,undef,undef,undef,undef,undef,undef,undef,undef,undef,undef,undef,undef,undef,undef,undef],defers:=[] }) ?assign ?body ?done
 case assign =>
  intro l x W K hK
  simp only [Cl.enc]
  gi_wp2
  exact hK
 case body =>
  rintro l pre x rest C W hRI hxs hC
  have HF:=Aside0.mk (HK.out.run pre x rest (by rw [← HE0.out,← HE1.out];exact hxs))
  obtain ⟨s,hs⟩:∃ s,s=regionsR l1 l2 pre:=⟨_,rfl⟩
  rw [← hs] at hRI HF
  have HSN:=Aside0.mk (show regionsR l1 l2 (pre++[x])=stepR l1 l2 s x by rw [hs,regionsR,regionsR,List.foldl_append];rfl)
  obtain ⟨v,hrb,hnb⟩:=hRI.rb
  have HRX:=Aside0.mk hRI.rx
  have HRB:=Aside0.mk hrb
  have HNB:=Aside0.mk hnb
  have HCC:=Aside0.mk (show W.heap[C]?=some (.cells #[.int .i64 x.f,.int .i64 x.t,.int .i64 x.m0,.int .i64 x.m1,.bool x.h0,.bool x.h1] 46 (0,0)) from hC)
  have zc0:W.cell? ⟨C,0,none⟩=some (.int .i64 x.f):=(blk_cell HCC.out 0).trans rfl
  have zc1:W.cell? ⟨C,1,none⟩=some (.int .i64 x.t):=(blk_cell HCC.out 1).trans rfl
  have zc2:W.cell? ⟨C,2,none⟩=some (.int .i64 x.m0):=(blk_cell HCC.out 2).trans rfl
  have zc3:W.cell? ⟨C,3,none⟩=some (.int .i64 x.m1):=(blk_cell HCC.out 3).trans rfl
  have zc4:W.cell? ⟨C,4,none⟩=some (.bool x.h0):=(blk_cell HCC.out 4).trans rfl
  have zc5:W.cell? ⟨C,5,none⟩=some (.bool x.h1):=(blk_cell HCC.out 5).trans rfl
  have zat:W.cell? ⟨At,0,none⟩=some (.int .i64 s.at_):=(blk_cell HRX.out.atB 0).trans rfl
  have zF:W.cell? ⟨F,0,none⟩=some (.func (.func 14) #[] #[.pointer (some ⟨L,0,none⟩),.pointer (some ⟨O,0,none⟩)]):=(blk_cell HRX.out.fB 0).trans rfl
  clear hRI hxs hC hrb hnb hs
  gi_upto_if 27 with (fail)
  gi_cut [27] from 82 (fun u27 wc=>∃ v1,Aside0 (RB w L O (gapR s x).last v1 (gapR s x).out wc∧some B≠v1.ownBlock)∧Aside0 (RX w L O F At Ka Kb B (.slice A1 l1.length c1) (.slice A2 l2.length c2) (.slice B0 e0.length d0) (.slice B1 e1.length d1) e0 e1 s.at_ wc)∧Aside0 (wc.heap[C]?=some (.cells #[.int .i64 x.f,.int .i64 x.t,.int .i64 x.m0,.int .i64 x.m1,.bool x.h0,.bool x.h1] 46 (0,0)))∧Aside0 (KeepsOthers W wc∧wc.heap[B]?=W.heap[B]?))
  case first =>
   by_cases hat:s.at_<x.f
   ·have g1:decide (s.at_<x.f)=true:=decide_eq_true hat
    have HG:=Aside0.mk (show gapR s x=⟨addR s.last (x.f - s.at_) 0 0,s.out++[addR s.last (x.f - s.at_) 0 0],s.at_⟩ by rw [gapR,if_pos hat])
    have k1:IntKind.i64.wrap (x.f - s.at_)=x.f - s.at_:=by have h1:=HF.out.at_;have h2:=HF.out.f;unfold SmB at h1 h2;exact IntWalk.i64_in _ (by omega)
    gi_wp2_with (refine ⟨trivial,?_⟩;gi_at_call 14;refine (CallsIn.inRound l (callsIn_wide.2 (add_calls w L O s.last v s.out W (x.f - s.at_) 0 0 HRB.out HF.out.b0 (by have h1:=HF.out.at_;have h2:=HF.out.f;unfold SmB at h1 h2;unfold SpB;omega) (by unfold SpB;omega) (by unfold SpB;omega) (by have h1:=HF.out.len;omega)))).mono ?_;rintro e W1 ⟨g,c,rfl,h2,he,hg⟩;have H2:=Aside0.mk h2;have HE:=Aside0.mk he;have HGG:=Aside0.mk hg;clear h2 he hg)
    gi_meet
    case rel =>
     refine ⟨.slice (some ⟨g,0,none⟩) (s.out.length+1) c,⟨by rw [HG.out];exact H2.out,?_⟩,⟨HRX.out.els HRB.out HE.out⟩,⟨(HE.out.typed HRB.out HCC.out (by decide) (by decide)).trans HCC.out⟩,⟨HE.out.keeps HRB.out,HE.out.2 B HRX.out.sz (by have:=HBL.out;omega) (by have:=HBL.out;omega) HNB.out⟩⟩
     exact own_ne HRX.out.sz HNB.out HGG.out
   ·have g1:decide (s.at_<x.f)=false:=decide_eq_false hat
    have HG:=Aside0.mk (show gapR s x=s by rw [gapR,if_neg hat])
    have hat':x.f≤s.at_:=by omega
    gi_wp2
    gi_meet
    case rel=>exact ⟨v,⟨by rw [HG.out];exact HRB.out,HNB.out⟩,HRX,HCC,⟨KeepsOthers.refl _,rfl⟩⟩
  case rest =>
   clear HRB HNB HRX HCC zc0 zc1 zc2 zc3 zc4 zc5 zat zF
   obtain ⟨v1,HRB,HRX,HCC,HKP⟩:=hcut
   have zc0:wc.cell? ⟨C,0,none⟩=some (.int .i64 x.f):=(blk_cell HCC.out 0).trans rfl
   have zc1:wc.cell? ⟨C,1,none⟩=some (.int .i64 x.t):=(blk_cell HCC.out 1).trans rfl
   have zc2:wc.cell? ⟨C,2,none⟩=some (.int .i64 x.m0):=(blk_cell HCC.out 2).trans rfl
   have zc3:wc.cell? ⟨C,3,none⟩=some (.int .i64 x.m1):=(blk_cell HCC.out 3).trans rfl
   have zc4:wc.cell? ⟨C,4,none⟩=some (.bool x.h0):=(blk_cell HCC.out 4).trans rfl
   have zc5:wc.cell? ⟨C,5,none⟩=some (.bool x.h1):=(blk_cell HCC.out 5).trans rfl
   have zF:wc.cell? ⟨F,0,none⟩=some (.func (.func 14) #[] #[.pointer (some ⟨L,0,none⟩),.pointer (some ⟨O,0,none⟩)]):=(blk_cell HRX.out.fB 0).trans rfl
   obtain ⟨s1,hs1⟩:∃ s1,s1=gapR s x:=⟨_,rfl⟩
   have HB1:=Aside0.mk HF.out.b1
   have HQA:=Aside0.mk HF.out.qa
   have HQB:=Aside0.mk HF.out.qb
   rw [← hs1] at HRB HB1 HQA HQB
   have HS1:=Aside0.mk hs1
   have HLN:=Aside0.mk (show s1.out.length≤1099511627001 by
    have h1:=HF.out.len
    rw [hs1,gapR]
    split
    ·simp;omega
    ·omega)
   have k2:IntKind.i64.wrap (x.t - x.f)=x.t - x.f:=by have h1:=HF.out.t;have h2:=HF.out.f;unfold SmB at h1 h2;exact IntWalk.i64_in _ (by omega)
   clear hs1
   gi_upto_region 10 with (refine ⟨trivial,?_⟩;gi_at_call 14;refine (CallsIn.inRound l (callsIn_wide.2 (add_calls w L O s1.last v1 s1.out wc (x.t - x.f) x.m0 x.m1 HRB.out.1 HB1.out (by have h1:=HF.out.t;have h2:=HF.out.f;unfold SmB at h1 h2;unfold SpB;omega) (by have h1:=HF.out.m0;unfold SmB at h1;unfold SpB;omega) (by have h1:=HF.out.m1;unfold SmB at h1;unfold SpB;omega) (by have h1:=HLN.out;omega)))).mono ?_;rintro e W2 ⟨g,c,rfl,h2,he,hg⟩;have H2:=Aside0.mk h2;have HE:=Aside0.mk he;have HGG:=Aside0.mk hg;clear h2 he hg)
   clear zc0 zc1 zc2 zc3 zc4 zc5 zF k2
   obtain ⟨r,hr⟩:∃ r,r=addR s1.last (x.t - x.f) x.m0 x.m1:=⟨_,rfl⟩
   rw [← hr] at H2 HQA HQB
   obtain ⟨lo,n1,hq1,hle1⟩:=HQA.out
   obtain ⟨lo2,n2,hq2,hle2⟩:=HQB.out
   have HRX2:=Aside0.mk (HRX.out.els HRB.out.1 HE.out)
   have HCC2:=Aside0.mk ((HE.out.typed HRB.out.1 HCC.out (by decide) (by decide)).trans HCC.out)
   have HKP2:=Aside0.mk (show KeepsOthers W W2∧W2.heap[B]?=W.heap[B]? from ⟨HKP.out.1.trans (HE.out.keeps HRB.out.1),(HE.out.2 B HRX.out.sz (by have:=HBL.out;omega) (by have:=HBL.out;omega) HRB.out.2).trans HKP.out.2⟩)
   have HNB2:=Aside0.mk (own_ne (c:=c) (n:=s1.out.length+1) HRX.out.sz HRB.out.2 HGG.out)
   have HR:=Aside0.mk hr
   obtain ⟨y1,y2,y3,y4⟩:=last_cells H2.out.row hq1 hq2
   obtain ⟨p,hp⟩:∃ p,p=(l1.drop lo).take n1:=⟨_,rfl⟩
   obtain ⟨q,hqq⟩:∃ q,q=(l2.drop lo2).take n2:=⟨_,rfl⟩
   have HP:=Aside0.mk (And.intro hp hqq)
   have HLE:=Aside0.mk (And.intro hle1 hle2)
   have HQ12:=Aside0.mk (And.intro hq1 hq2)
   obtain ⟨ke,hke⟩:=(Equal_ev p q (by rw [hp,List.length_take];have:=HK.out.la;omega)).rounds
   have HKE:=Aside0.mk hke
   clear hr hq1 hq2 hle1 hle2 hp hqq hke HRB HRX HCC HKP HE HGG HQA HQB HB1
   obtain ⟨n,hn⟩:∃ n,n=s1.out.length:=⟨_,rfl⟩
   rw [← hn] at H2 y1 y2 y3 y4 HNB2 ⊢
   have HN:=Aside0.mk hn
   clear hn
   have za0:W2.drew.cell? ⟨C,0,none⟩=some (.int .i64 x.f):=(blk_cell HCC2.out 0).trans rfl
   have za1:W2.drew.cell? ⟨C,1,none⟩=some (.int .i64 x.t):=(blk_cell HCC2.out 1).trans rfl
   have za2:W2.drew.cell? ⟨C,2,none⟩=some (.int .i64 x.m0):=(blk_cell HCC2.out 2).trans rfl
   have za3:W2.drew.cell? ⟨C,3,none⟩=some (.int .i64 x.m1):=(blk_cell HCC2.out 3).trans rfl
   have za4:W2.drew.cell? ⟨C,4,none⟩=some (.bool x.h0):=(blk_cell HCC2.out 4).trans rfl
   have za5:W2.drew.cell? ⟨C,5,none⟩=some (.bool x.h1):=(blk_cell HCC2.out 5).trans rfl
   have za6:W2.drew.cell? ⟨Ka,0,none⟩=some (.slice A1 l1.length c1):=(blk_cell HRX2.out.aB 0).trans rfl
   have za7:W2.drew.cell? ⟨Kb,0,none⟩=some (.slice A2 l2.length c2):=(blk_cell HRX2.out.bB 0).trans rfl
   have za8:W2.drew.cell? ⟨g,n * 7+3,none⟩=some (.int .i64 (lo:Int)):=y1
   have za9:W2.drew.cell? ⟨g,n * 7+4,none⟩=some (.int .i64 (n1:Int)):=y2
   have za10:W2.drew.cell? ⟨g,n * 7+5,none⟩=some (.int .i64 (lo2:Int)):=y3
   have za11:W2.drew.cell? ⟨g,n * 7+6,none⟩=some (.int .i64 (n2:Int)):=y4
   have HBa:=Aside0.mk (below_drew1 (Below.refl W2.heap.size W2))
   have HRB2w:=Aside0.mk H2.out.bel
   have HC2_:=HC2
   clear y1 y2 y3 y4
   refine wpIn_only ?_
   refine startR_ (by rintro ⟨a,w,h⟩;exact h) (noDefer (by kernel_rfl)) (n:=18) (S:=fun w'=>w'.cell? ⟨C,0,none⟩=some (.int .i64 x.f)∧w'.cell? ⟨C,1,none⟩=some (.int .i64 x.t)∧w'.cell? ⟨C,2,none⟩=some (.int .i64 x.m0)∧w'.cell? ⟨C,3,none⟩=some (.int .i64 x.m1)∧w'.cell? ⟨C,4,none⟩=some (.bool x.h0)∧w'.cell? ⟨C,5,none⟩=some (.bool x.h1)∧w'.cell? ⟨Ka,0,none⟩=some (.slice A1 l1.length c1)∧w'.cell? ⟨Kb,0,none⟩=some (.slice A2 l2.length c2)∧w'.cell? ⟨g,n * 7+3,none⟩=some (.int .i64 (lo:Int))∧w'.cell? ⟨g,n * 7+4,none⟩=some (.int .i64 (n1:Int))∧w'.cell? ⟨g,n * 7+5,none⟩=some (.int .i64 (lo2:Int))∧w'.cell? ⟨g,n * 7+6,none⟩=some (.int .i64 (n2:Int))) (ds:=[17]) #[false,false,false,false,false,false,false,false,false,false,false,false,false,false,false,false,false,false] (by kernel_rfl) rfl rfl ⟨za0,za1,za2,za3,za4,za5,za6,za7,za8,za9,za10,za11⟩ (fun hHeld=>?_)
   refine with_tabW greg_10.tab10 greg_10.bits10 (fun HT_ HW_=>?_)
   generalize W2.drew=W3 at za0 za1 za2 za3 za4 za5 za6 za7 za8 za9 za10 za11 HBa hHeld ⊢
   refine pure_ (i:=0) (N:=some 44) (v:=?_) (a':=?_) #[true,false,false,false,false,false,false,false,false,false,false,false,false,false,false,false,false,false] rfl rfl (any_of HT_.out (by kernel_rfl)) (fun _ _ _ h=>h) (Or.inl ⟨by rfl,?_⟩) ?_ ?_
   rotate_left
   ·intro w'
    go_simp
    with_reducible rfl
   rotate_left
   ·simp only [Act.put,List.setIfInBounds_toArray,List.set_cons_zero,List.set_cons_succ,i64_w,i32_w]
    rfl
   refine pure_ (i:=3) (N:=some 47) (v:=?_) (a':=?_) #[true,false,false,true,false,false,false,false,false,false,false,false,false,false,false,false,false,false] rfl rfl (any_of HT_.out (by kernel_rfl)) (fun _ _ _ h=>h) (Or.inl ⟨by rfl,?_⟩) ?_ ?_
   rotate_left
   ·intro w'
    go_simp
    with_reducible rfl
   rotate_left
   ·simp only [Act.put,List.setIfInBounds_toArray,List.set_cons_zero,List.set_cons_succ,i64_w,i32_w]
    rfl
   refine pure_ (i:=4) (N:=some 48) (v:=?_) (a':=?_) #[true,false,false,true,true,false,false,false,false,false,false,false,false,false,false,false,false,false] rfl rfl (any_of HT_.out (by kernel_rfl)) (fun _ _ _ h=>h) (Or.inl ⟨by rfl,?_⟩) ?_ ?_
   rotate_left
   ·intro w'
    go_simp
    with_reducible rfl
   rotate_left
   ·simp only [Act.put,List.setIfInBounds_toArray,List.set_cons_zero,List.set_cons_succ,i64_w,i32_w]
    rfl
   refine pure_ (i:=5) (N:=some 49) (v:=?_) (a':=?_) #[true,false,false,true,true,true,false,false,false,false,false,false,false,false,false,false,false,false] rfl rfl (any_of HT_.out (by kernel_rfl)) (fun _ _ _ h=>h) (Or.inl ⟨by rfl,?_⟩) ?_ ?_
   rotate_left
   ·intro w'
    go_simp
    with_reducible rfl
   rotate_left
   ·simp only [Act.put,List.setIfInBounds_toArray,List.set_cons_zero,List.set_cons_succ,i64_w,i32_w]
    rfl
   refine pure_ (i:=9) (N:=some 53) (v:=?_) (a':=?_) #[true,false,false,true,true,true,false,false,false,true,false,false,false,false,false,false,false,false] rfl rfl (any_of HT_.out (by kernel_rfl)) (fun _ _ _ h=>h) (Or.inl ⟨by rfl,?_⟩) ?_ ?_
   rotate_left
   ·intro w'
    go_simp
    with_reducible rfl
   rotate_left
   ·simp only [Act.put,List.setIfInBounds_toArray,List.set_cons_zero,List.set_cons_succ,i64_w,i32_w]
    rfl
   refine pure_ (i:=10) (N:=some 54) (v:=?_) (a':=?_) #[true,false,false,true,true,true,false,false,false,true,true,false,false,false,false,false,false,false] rfl rfl (any_of HT_.out (by kernel_rfl)) (fun _ _ _ h=>h) (Or.inl ⟨by rfl,?_⟩) ?_ ?_
   rotate_left
   ·intro w'
    go_simp
    with_reducible rfl
   rotate_left
   ·simp only [Act.put,List.setIfInBounds_toArray,List.set_cons_zero,List.set_cons_succ,i64_w,i32_w]
    rfl
   refine pure_ (i:=11) (N:=some 55) (v:=?_) (a':=?_) #[true,false,false,true,true,true,false,false,false,true,true,true,false,false,false,false,false,false] rfl rfl (any_of HT_.out (by kernel_rfl)) (fun _ _ _ h=>h) (Or.inl ⟨by rfl,?_⟩) ?_ ?_
   rotate_left
   ·intro w'
    go_simp
    with_reducible rfl
   rotate_left
   ·simp only [Act.put,List.setIfInBounds_toArray,List.set_cons_zero,List.set_cons_succ,i64_w,i32_w]
    rfl
   refine take_ (i:=1) (N:=some 45) (v:=?_) (a':=?_) #[true,true,false,true,true,true,false,false,false,true,true,true,false,false,false,false,false,false] rfl rfl (take_ofW HT_.out HW_.out (by kernel_rfl)) (fun _ _ _ h=>h) (Or.inl ⟨by rfl,?_⟩) hHeld ?_ ?_
   rotate_left
   ·rintro w' ⟨s0,s1,s2,s3,s4,s5,s6,s7,s8,s9,s10,s11⟩
    go_simp
    with_reducible rfl
   rotate_left
   ·simp only [Act.put,List.setIfInBounds_toArray,List.set_cons_zero,List.set_cons_succ,i64_w,i32_w]
    rfl
   refine take_ (i:=2) (N:=some 46) (v:=?_) (a':=?_) #[true,true,true,true,true,true,false,false,false,true,true,true,false,false,false,false,false,false] rfl rfl (take_ofW HT_.out HW_.out (by kernel_rfl)) (fun _ _ _ h=>h) (Or.inl ⟨by rfl,?_⟩) hHeld ?_ ?_
   rotate_left
   ·rintro w' ⟨s0,s1,s2,s3,s4,s5,s6,s7,s8,s9,s10,s11⟩
    go_simp
    with_reducible rfl
   rotate_left
   ·simp only [Act.put,List.setIfInBounds_toArray,List.set_cons_zero,List.set_cons_succ,i64_w,i32_w]
    rfl
   refine take_ (i:=6) (N:=some 50) (v:=?_) (a':=?_) #[true,true,true,true,true,true,true,false,false,true,true,true,false,false,false,false,false,false] rfl rfl (take_ofW HT_.out HW_.out (by kernel_rfl)) (fun _ _ _ h=>h) (Or.inl ⟨by rfl,?_⟩) hHeld ?_ ?_
   rotate_left
   ·rintro w' ⟨s0,s1,s2,s3,s4,s5,s6,s7,s8,s9,s10,s11⟩
    go_simp
    with_reducible rfl
   rotate_left
   ·simp only [Act.put,List.setIfInBounds_toArray,List.set_cons_zero,List.set_cons_succ,i64_w,i32_w]
    rfl
   refine take_ (i:=8) (N:=some 52) (v:=?_) (a':=?_) #[true,true,true,true,true,true,true,false,true,true,true,true,false,false,false,false,false,false] rfl rfl (take_ofW HT_.out HW_.out (by kernel_rfl)) (fun _ _ _ h=>h) (Or.inl ⟨by rfl,?_⟩) hHeld ?_ ?_
   rotate_left
   ·rintro w' ⟨s0,s1,s2,s3,s4,s5,s6,s7,s8,s9,s10,s11⟩
    go_simp
    with_reducible rfl
   rotate_left
   ·simp only [Act.put,List.setIfInBounds_toArray,List.set_cons_zero,List.set_cons_succ,i64_w,i32_w]
    rfl
   refine take_ (i:=12) (N:=some 56) (v:=?_) (a':=?_) #[true,true,true,true,true,true,true,false,true,true,true,true,true,false,false,false,false,false] rfl rfl (take_ofW HT_.out HW_.out (by kernel_rfl)) (fun _ _ _ h=>h) (Or.inl ⟨by rfl,?_⟩) hHeld ?_ ?_
   rotate_left
   ·rintro w' ⟨s0,s1,s2,s3,s4,s5,s6,s7,s8,s9,s10,s11⟩
    go_simp
    with_reducible rfl
   rotate_left
   ·simp only [Act.put,List.setIfInBounds_toArray,List.set_cons_zero,List.set_cons_succ,i64_w,i32_w]
    rfl
   refine one_ (i:=7) (N:=some 51) #[true,true,true,true,true,true,true,true,true,true,true,true,true,false,false,false,false,false] rfl rfl (one_of HT_.out (by kernel_rfl)) (by decide) (fun K hK=>?_)
   refine goes_ Try.func19 (by kernel_rfl) rfl #[.slice A1 l1.length c1,.agg #[.int .i64 (lo:Int),.int .i64 (n1:Int)]] (by rfl) rfl rfl (by simp only [List.map_toArray,List.map_cons,List.map_nil];rfl) ?_
   with_reducible refine (cut_calls' A1 c1 l1 p lo n1 _ HP.out.1 (by have:=HK.out.la;omega) HC1.out HLE.out.1).mono ?_
   rintro e w3 ⟨⟨D1,rfl,hD1,hd1⟩,hb⟩
   refine ⟨_,rfl,?_⟩
   have HD1_:=Aside0.mk hD1
   have Hd1_:=Aside0.mk hd1
   clear hD1 hd1
   have zb0:=pw_cell_below hb za0
   have zb1:=pw_cell_below hb za1
   have zb2:=pw_cell_below hb za2
   have zb3:=pw_cell_below hb za3
   have zb4:=pw_cell_below hb za4
   have zb5:=pw_cell_below hb za5
   have zb6:=pw_cell_below hb za6
   have zb7:=pw_cell_below hb za7
   have zb8:=pw_cell_below hb za8
   have zb9:=pw_cell_below hb za9
   have zb10:=pw_cell_below hb za10
   have zb11:=pw_cell_below hb za11
   have HBb:=Aside0.mk (below_step HBa.out hb)
   clear hb za0 za1 za2 za3 za4 za5 za6 za7 za8 za9 za10 za11
   refine hK.out _ _ ⟨zb0,zb1,zb2,zb3,zb4,zb5,zb6,zb7,zb8,zb9,zb10,zb11⟩ (fun hHeld=>?_)
   clear hK K
   refine norm_ (a':=?_) ?_ ?_
   rotate_left
   ·show Act.put _ (some 51) _=_
    simp only [Act.put,List.setIfInBounds_toArray,List.set_cons_zero,List.set_cons_succ,i64_w,i32_w]
    rfl
   refine one_ (i:=13) (N:=some 57) #[true,true,true,true,true,true,true,true,true,true,true,true,true,true,false,false,false,false] rfl rfl (one_of HT_.out (by kernel_rfl)) (by decide) (fun K hK=>?_)
   refine goes_ Try.func19 (by kernel_rfl) rfl #[.slice A2 l2.length c2,.agg #[.int .i64 (lo2:Int),.int .i64 (n2:Int)]] (by rfl) rfl rfl (by simp only [List.map_toArray,List.map_cons,List.map_nil];rfl) ?_
   with_reducible refine (cut_calls' A2 c2 l2 q lo2 n2 _ HP.out.2 (by have:=HK.out.lb;omega) HC2_.out HLE.out.2).mono ?_
   rintro e w4 ⟨⟨D2,rfl,hD2,hd2⟩,hb⟩
   refine ⟨_,rfl,?_⟩
   have HD2_:=Aside0.mk hD2
   have Hd2_:=Aside0.mk hd2
   clear hD2 hd2
   have zc0:=pw_cell_below hb zb0
   have zc1:=pw_cell_below hb zb1
   have zc2:=pw_cell_below hb zb2
   have zc3:=pw_cell_below hb zb3
   have zc4:=pw_cell_below hb zb4
   have zc5:=pw_cell_below hb zb5
   have zc6:=pw_cell_below hb zb6
   have zc7:=pw_cell_below hb zb7
   have zc8:=pw_cell_below hb zb8
   have zc9:=pw_cell_below hb zb9
   have zc10:=pw_cell_below hb zb10
   have zc11:=pw_cell_below hb zb11
   have HBc:=Aside0.mk (below_step HBb.out hb)
   clear hb zb0 zb1 zb2 zb3 zb4 zb5 zb6 zb7 zb8 zb9 zb10 zb11
   refine hK.out _ _ ⟨zc0,zc1,zc2,zc3,zc4,zc5,zc6,zc7,zc8,zc9,zc10,zc11⟩ (fun hHeld=>?_)
   clear hK K
   refine norm_ (a':=?_) ?_ ?_
   rotate_left
   ·show Act.put _ (some 57) _=_
    simp only [Act.put,List.setIfInBounds_toArray,List.set_cons_zero,List.set_cons_succ,i64_w,i32_w]
    rfl
   refine one_ (i:=14) (N:=some 58) #[true,true,true,true,true,true,true,true,true,true,true,true,true,true,true,false,false,false] rfl rfl (one_of HT_.out (by kernel_rfl)) (by decide) (fun K hK=>?_)
   refine goes_ Try.func18 (by kernel_rfl) rfl #[.agg #[.int .i64 x.f,.int .i64 x.t,.int .i64 x.m0,.int .i64 x.m1,.bool x.h0,.bool x.h1],.slice D1 p.length (c1 - lo),.slice D2 q.length (c2 - lo2)] (by rfl) rfl rfl (by simp only [List.map_toArray,List.map_cons,List.map_nil];rfl) ?_
   with_reducible refine (kind_calls x.f x.t x.m0 x.m1 x.h0 x.h1 D1 (c1 - lo) p D2 (c2 - lo2) q _ (HD1_.out _ (Kd.C_below HR1.out (below_step HRB2w.out HBc.out))) Hd1_.out (HD2_.out _ (Kd.C_below HR2.out (below_step HRB2w.out HBc.out))) Hd2_.out ke HKE.out).mono ?_
   rintro e w5 ⟨rfl,hb⟩
   refine ⟨_,rfl,?_⟩
   have H5:=Aside0.mk (H2.out.below (below_step HBc.out hb))
   obtain ⟨cs5,hg5⟩:=Kd.R_typed H5.out.row g rfl
   have HG5:=Aside0.mk hg5
   have fg:=blk_frozen hg5 (n * 7)
   have yg:=last_kind H5.out.row HN.out
   clear hg5
   have zd0:=pw_cell_below hb zc0
   have zd1:=pw_cell_below hb zc1
   have zd2:=pw_cell_below hb zc2
   have zd3:=pw_cell_below hb zc3
   have zd4:=pw_cell_below hb zc4
   have zd5:=pw_cell_below hb zc5
   have zd6:=pw_cell_below hb zc6
   have zd7:=pw_cell_below hb zc7
   have zd8:=pw_cell_below hb zc8
   have zd9:=pw_cell_below hb zc9
   have zd10:=pw_cell_below hb zc10
   have zd11:=pw_cell_below hb zc11
   have HBd:=Aside0.mk (below_step HBc.out hb)
   clear hb zc0 zc1 zc2 zc3 zc4 zc5 zc6 zc7 zc8 zc9 zc10 zc11
   refine hK.out _ _ ⟨zd0,zd1,zd2,zd3,zd4,zd5,zd6,zd7,zd8,zd9,zd10,zd11⟩ (fun hHeld=>?_)
   clear hK K
   refine norm_ (a':=?_) ?_ ?_
   rotate_left
   ·show Act.put _ (some 58) _=_
    simp only [Act.put,List.setIfInBounds_toArray,List.set_cons_zero,List.set_cons_succ,i64_w,i32_w]
    rfl
   refine pure_ (i:=15) (N:=some 59) (v:=?_) (a':=?_) #[true,true,true,true,true,true,true,true,true,true,true,true,true,true,true,true,false,false] rfl rfl (any_of HT_.out (by kernel_rfl)) (fun _ _ _ h=>h) (Or.inl ⟨by rfl,?_⟩) ?_ ?_
   rotate_left
   ·intro w'
    go_simp
    with_reducible rfl
   rotate_left
   ·simp only [Act.put,List.setIfInBounds_toArray,List.set_cons_zero,List.set_cons_succ,i64_w,i32_w]
    rfl
   refine pure_ (i:=16) (N:=some 60) (v:=?_) (a':=?_) #[true,true,true,true,true,true,true,true,true,true,true,true,true,true,true,true,true,false] rfl rfl (any_of HT_.out (by kernel_rfl)) (fun _ _ _ h=>h) (Or.inl ⟨by rfl,?_⟩) ?_ ?_
   rotate_left
   ·intro w'
    go_simp
    with_reducible rfl
   rotate_left
   ·simp only [Act.put,List.setIfInBounds_toArray,List.set_cons_zero,List.set_cons_succ,i64_w,i32_w]
    rfl
   refine last_ (i:=17) (N:=none) #[true,true,true,true,true,true,true,true,true,true,true,true,true,true,true,true,true,true] rfl rfl (one_of HT_.out (by kernel_rfl)) (by decide) (fun K hK=>?_)
   refine skip_ (w1:=?_) (by rfl) rfl ?_ ?_
   rotate_left
   ·go_simp
    rfl
   refine hK.out _ _ ?_
   clear hK K
   refine done_ (done_of HT_.out (by kernel_rfl)) ?_

   simp only [Exit.then]
   first|gi_step|go_step
   obtain ⟨kd,hkd⟩:∃ kd:Int,kd=(if x.h1=false then 1 else if x.h0=false then 2 else if p=q then 3 else 4):=⟨_,rfl⟩
   rw [← hkd]
   have HSN2:=Aside0.mk (show stepR l1 l2 s x=⟨r,s1.out++[kinded r kd],x.t⟩ by
    have h1:=HS1.out
    have h2:=HR.out
    have h3:kindP x (cutP l1 r.f2) (cutP l2 r.f3)=kd:=by
     rw [hkd,HQ12.out.1,HQ12.out.2,cutP,cutP,Int.toNat_natCast,Int.toNat_natCast,Int.toNat_natCast,Int.toNat_natCast,← HP.out.1,← HP.out.2,kindP]
    simp only [stepR,← h1,← h2,h3])
   have HRX6:=Aside0.mk ((HRX2.out.below HBd.out).move (W':=w5.setCell ⟨g,n * 7,none⟩ (.int .i64 kd)) (by simp [World.setCell]) (fun k cs q hc h1 _ _ _=>Below.heap_setCell w5 ⟨g,n * 7,none⟩ _ k (blk_ne hc HG5.out h1)))
   have HRB6:=Aside0.mk (rb_kind (HN.out ▸ H5.out) HG5.out kd)
   have HC6:=Aside0.mk (show (w5.setCell ⟨g,n * 7,none⟩ (.int .i64 kd)).heap[C]?=some (.cells #[.int .i64 x.f,.int .i64 x.t,.int .i64 x.m0,.int .i64 x.m1,.bool x.h0,.bool x.h1] 46 (0,0)) from
    (Below.heap_setCell w5 ⟨g,n * 7,none⟩ _ C (blk_ne (blk_below HCC2.out HBd.out) HG5.out (by decide))).trans (blk_below HCC2.out HBd.out))
   have HKP6:=Aside0.mk (show KeepsOthers W (w5.setCell ⟨g,n * 7,none⟩ (.int .i64 kd))∧(w5.setCell ⟨g,n * 7,none⟩ (.int .i64 kd)).heap[B]?=W.heap[B]? from
    ⟨(HKP2.out.1.trans (keeps_below HBd.out)).trans (KeepsOthers.setCell _ _ _),(Below.heap_setCell w5 ⟨g,n * 7,none⟩ _ B (fun e=>HNB2.out (by rw [e];rfl))).trans ((HBd.out.block B HRX2.out.sz).trans HKP2.out.2)⟩)
   rw [← HN.out] at HRB6
   clear zd0 zd1 zd2 zd3 zd4 zd5 zd6 zd7 zd8 zd9 zd10 zd11 fg yg hHeld hkd
   generalize w5.setCell ⟨g,n * 7,none⟩ (.int .i64 kd)=w6 at HRX6 HRB6 HC6 HKP6 ⊢
   have zc1:w6.cell? ⟨C,1,none⟩=some (.int .i64 x.t):=(blk_cell HC6.out 1).trans rfl
   have zat:w6.cell? ⟨At,0,none⟩=some (.int .i64 s.at_):=(blk_cell HRX6.out.atB 0).trans rfl
   have fat:=blk_frozen HRX6.out.atB 0
   gi_wp2
   refine ⟨HKP6.out.1.trans (KeepsOthers.setCell _ _ _),(Below.heap_setCell w6 ⟨At,0,none⟩ _ B (by have:=HBL.out;show B≠At;omega)).trans HKP6.out.2,?_⟩
   show RI w L O F At Ka Kb B (.slice A1 l1.length c1) (.slice A2 l2.length c2) (.slice B0 e0.length d0) (.slice B1 e1.length d1) e0 e1 (regionsR l1 l2 (pre++[x])) _
   rw [HSN.out,HSN2.out]
   exact ⟨⟨_,HRB6.out.far HRX6.out.atB (by decide) (by decide) HAw.out 0 _,HNB2.out⟩,HRX6.out.at_put x.t⟩
 case done =>
  rintro D W hD hRI hK
  obtain ⟨s,hs⟩:∃ s,s=regionsR l1 l2 (clusters e0 e1):=⟨_,rfl⟩
  rw [← hs] at hRI
  have HFE:=Aside0.mk (show FitE s by rw [hs,HE0.out,HE1.out];exact HK.out.fin)
  have HPP:=Aside0.mk (show regionsP l0 l1 l2=endR l0.length s by rw [regionsP,← HE0.out,← HE1.out,hs])
  obtain ⟨v,hrb,hnb⟩:=hRI.rb
  have HRB:=Aside0.mk hrb
  have HRX:=Aside0.mk hRI.rx
  have HD:=Aside0.mk hD
  have HDK:=Aside0.mk hK
  have zat:W.cell? ⟨At,0,none⟩=some (.int .i64 s.at_):=(blk_cell HRX.out.atB 0).trans rfl
  have zF:W.cell? ⟨F,0,none⟩=some (.func (.func 14) #[] #[.pointer (some ⟨L,0,none⟩),.pointer (some ⟨O,0,none⟩)]):=(blk_cell HRX.out.fB 0).trans rfl
  have zO:W.cell? ⟨O,0,none⟩=some v:=(blk_cell HRB.out.outB 0).trans rfl
  clear hRI hrb hnb hs hD hK
  by_cases hlt:s.at_<(l0.length:Int)
  ·have g1:decide (s.at_<(l0.length:Int))=true:=decide_eq_true hlt
   have k1:IntKind.i64.wrap ((l0.length:Int) - s.at_)=(l0.length:Int) - s.at_:=by have h1:=HFE.out.at_;have h2:=HK.out.lo;unfold SmB at h1;exact IntWalk.i64_in _ (by omega)
   have HEN:=Aside0.mk (show endR l0.length s=s.out++[addR s.last ((l0.length:Int) - s.at_) 0 0] by rw [endR,if_pos hlt])
   gi_wp2_with (refine ⟨trivial,?_⟩;gi_at_call 14;refine (callsIn_wide.2 (add_calls w L O s.last v s.out W ((l0.length:Int) - s.at_) 0 0 HRB.out HFE.out.b0 (by have h1:=HFE.out.at_;have h2:=HK.out.lo;unfold SmB at h1;unfold SpB;omega) (by unfold SpB;omega) (by unfold SpB;omega) (by have h1:=HFE.out.len;omega))).mono ?_;rintro e W1 ⟨g,c,rfl,h2,he,hg⟩;have H2:=Aside0.mk h2;have HKD:=Aside0.mk ((he.keeps HRB.out).same _ _ HDK.out rfl);have zO1:=(blk_cell h2.outB 0).trans rfl;clear h2 he hg)
   refine ⟨by simp,.inl ⟨_,_,rfl,run_takeDeferred HKD.out,?_⟩⟩
   refine ⟨_,results_tmp rfl _ _ _,.slice (some ⟨g,0,none⟩) (s.out.length+1) c,rfl,?_,?_⟩
   ·rw [HPP.out,HEN.out]
    exact R_kept H2.out.row (fun k _ h2=>World.putObj_heap_other (fun e=>by obtain ⟨q,_,cs,hc⟩:=h2;rw [e,HKD.out] at hc;cases hc))
   exact H2.out.bel.grown (grownBy_putObj' _ D _) H2.out.bel.size (fun r e=>by cases e;exact Nat.le_trans HXd.out.rb.bel.size HD.out)
  have g1:decide (s.at_<(l0.length:Int))=false:=decide_eq_false hlt
  have hle:(l0.length:Int)≤s.at_:=by omega
  have HEN:=Aside0.mk (show endR l0.length s=s.out by rw [endR,if_neg hlt])
  gi_wp2
  refine ⟨by simp,.inl ⟨_,_,rfl,run_takeDeferred HDK.out,?_⟩⟩
  refine ⟨_,results_tmp rfl _ _ _,v,rfl,?_,?_⟩
  ·rw [HPP.out,HEN.out]
   exact R_kept HRB.out.row (fun k _ h2=>World.putObj_heap_other (fun e=>by obtain ⟨q,_,cs,hc⟩:=h2;rw [e,HDK.out] at hc;cases hc))
  exact HRB.out.bel.grown (grownBy_putObj' _ D _) HRB.out.bel.size (fun r e=>by cases e;exact Nat.le_trans HXd.out.rb.bel.size HD.out)
end Go.Proofs.Ytnmphfelebkaiaa.Pr
-- shrunk
/-
Several plain texts in one.
-/
namespace Go.Proofs.Ytnmphfelebkaiaa.Pr
open Go.RowKit Go.Proofs.YtnmphfelebkaiaaW.PrintWords Go.Proofs.YtnmphfelebkaiaaW.PrintLast Go.Proofs.YtnmphfelebkaiaaW.PrintMore
def playFrom (a:List ByteArray) (t:Nat):List Ed→List ByteArray
 | []=>a.drop t
 | e :: l=>(a.take e.f0.toNat).drop t++e.f2++playFrom a (e.f0+e.f1).toNat l
theorem okFrom_cons {fr many:Int} {e:Ed} {l:List Ed} (h:okFrom fr many (e :: l)=true) :
  fr≤e.f0∧0≤e.f1∧e.f0≤many∧e.f1≤many - e.f0∧¬ (e.f1=0∧e.f2=[])∧okFrom (e.f0+e.f1+1) many l=true:=by
 simp only [okFrom,Bool.and_eq_true,decide_eq_true_eq] at h
 exact ⟨h.1.1,h.1.2.1,h.1.2.2.1,h.1.2.2.2.1,h.1.2.2.2.2,h.2⟩
end Go.Proofs.Ytnmphfelebkaiaa.Pr
-- shrunk
/-
Playing and turning edits: plain facts on lists, no program in sight.
-/
namespace Go.Proofs.Ytnmphfelebkaiaa.Pr
def playR (s:List ByteArray) (t:Int):List Ed→List ByteArray
 | []=>s
 | e :: l=>s.take (e.f0 - t).toNat++e.f2++playR (s.drop (e.f0 - t+e.f1).toNat) (e.f0+e.f1) l
theorem playFrom_R (a:List ByteArray):∀ (l:List Ed) (fr:Int) (t:Nat),(t:Int)≤fr→okFrom fr a.length l=true→playFrom a t l=playR (a.drop t) t l
 | [],fr,t,h,ho=>rfl
 | e :: l,fr,t,h,ho=>by
  obtain ⟨c1,c2,c3,c4,_,ho'⟩:=okFrom_cons ho
  simp only [playFrom,playR]
  rw [playFrom_R a l _ (e.f0+e.f1).toNat (by omega) ho',List.drop_take,List.drop_drop,Int.toNat_of_nonneg (by omega),show e.f0.toNat - t=(e.f0 - (t:Int)).toNat by omega,show t+(e.f0 - (t:Int)+e.f1).toNat=(e.f0+e.f1).toNat by omega]
end Go.Proofs.Ytnmphfelebkaiaa.Pr
-- shrunk
/-
What is between two lists: it is right, played it is the other one; its size: plain facts on lists.
-/
namespace Go.Proofs.Ytnmphfelebkaiaa.Pr
def edG:Option Ed→Int→List Step→List Ed
 | none,_,[]=>[]
 | some e,_,[]=>[e]
 | none,t,.keep :: r=>edG none (t+1) r
 | some e,t,.keep :: r=>e :: edG none (t+1) r
 | none,t,.del :: r=>edG (some ⟨t,1,[]⟩) (t+1) r
 | some e,t,.del :: r=>edG (some ⟨e.f0,e.f1+1,e.f2⟩) (t+1) r
 | none,t,.ins s :: r=>edG (some ⟨t,0,[s]⟩) t r
 | some e,t,.ins s :: r=>edG (some ⟨e.f0,e.f1,e.f2++[s]⟩) t r
theorem edLast_snoc (out:List Ed) (e:Ed):edLast (out++[e])=e:=by simp [edLast]
theorem addDel_snoc (out:List Ed) (e:Ed):addDel (out++[e])=out++[⟨e.f0,e.f1+1,e.f2⟩]:=by
 rw [addDel,edLast_snoc]
 simp
theorem addIns_snoc (s:ByteArray) (out:List Ed) (e:Ed):addIns s (out++[e])=out++[⟨e.f0,e.f1,e.f2++[s]⟩]:=by
 rw [addIns,edLast_snoc]
 simp
theorem edits_edG:∀ (r:List Step) (t:Int) (out:List Ed),edits t false out r=out++edG none t r∧∀ e,edits t true (out++[e]) r=out++edG (some e) t r
 | [],t,out=>⟨by simp [edits,edG],fun e=>by simp [edits,edG]⟩
 | .keep :: r,t,out=>⟨by rw [edits,edG];exact (edits_edG r (t+1) out).1,fun e=>by rw [edits,edG,(edits_edG r (t+1) (out++[e])).1];simp⟩
 | .del :: r,t,out=>⟨by
   rw [edits,edG,opened,if_neg (by simp),addDel_snoc]
   exact (edits_edG r (t+1) out).2 _,fun e=>by
   rw [edits,edG,opened,if_pos rfl,addDel_snoc]
   exact (edits_edG r (t+1) out).2 _⟩
 | .ins s :: r,t,out=>⟨by
   rw [edits,edG,opened,if_neg (by simp),addIns_snoc]
   exact (edits_edG r t out).2 _,fun e=>by
   rw [edits,edG,opened,if_pos rfl,addIns_snoc]
   exact (edits_edG r t out).2 _⟩
def app:List Step→List ByteArray→List ByteArray
 | [],s=>s
 | .keep :: r,x :: s=>x :: app r s
 | .keep :: r,[]=>app r []
 | .del :: r,_ :: s=>app r s
 | .del :: r,[]=>app r []
 | .ins y :: r,s=>y :: app r s
def cnt:List Step→Nat
 | []=>0
 | .keep :: r=>cnt r+1
 | .del :: r=>cnt r+1
 | .ins _ :: r=>cnt r
def chg:List Step→Nat
 | []=>0
 | .keep :: r=>chg r
 | .del :: r=>chg r+1
 | .ins _ :: r=>chg r+1
theorem play_edG:∀ (r:List Step) (pre s:List ByteArray) (t:Int),cnt r≤s.length →
  playR (pre++s) t (edG none (t+pre.length) r)=pre++app r s ∧
  ∀ (e:Ed) (D:List ByteArray),e.f0=t+pre.length→e.f1=D.length→playR (pre++D++s) t (edG (some e) (t+pre.length+D.length) r)=pre++e.f2++app r s
 | [],pre,s,t,h=>⟨by simp [edG,playR,app],fun e D h0 h1=>by
   simp only [edG,playR,app]
   rw [show (e.f0 - t).toNat=pre.length by omega,show (e.f0 - t+e.f1).toNat=(pre++D).length by rw [List.length_append];omega,List.drop_left,List.append_assoc pre D s,List.take_left]⟩
 | .keep :: r,pre,[],t,h=>by simp [cnt] at h
 | .keep :: r,pre,x :: s,t,h=>by
  have hc:cnt r≤s.length:=by simp [cnt] at h;exact h
  refine ⟨?_,fun e D h0 h1=>?_⟩
  ·have h2:=(play_edG r (pre++[x]) s t hc).1
   rw [List.length_append,List.length_singleton] at h2
   rw [edG,app,show t+(pre.length:Int)+1=t+((pre.length+1:Nat):Int) by omega]
   simpa using h2
  ·rw [edG,app]
   simp only [playR]
   have h2:=(play_edG r [x] s (e.f0+e.f1) hc).1
   rw [show (e.f0 - t).toNat=pre.length by omega,show (e.f0 - t+e.f1).toNat=(pre++D).length by rw [List.length_append];omega,List.drop_left,List.append_assoc pre D,List.take_left]
   rw [show t+(pre.length:Int)+(D.length:Int)+1=e.f0+e.f1+(([x]:List ByteArray).length:Int) by simp;omega]
   have h3:playR (x :: s) (e.f0+e.f1) (edG none (e.f0+e.f1+(([x]:List ByteArray).length:Int)) r)=x :: app r s:=by simpa using h2
   rw [h3]
 | .del :: r,pre,[],t,h=>by simp [cnt] at h
 | .del :: r,pre,x :: s,t,h=>by
  have hc:cnt r≤s.length:=by simp [cnt] at h;exact h
  refine ⟨?_,fun e D h0 h1=>?_⟩
  ·have h2:=(play_edG r pre s t hc).2 ⟨t+pre.length,1,[]⟩ [x] rfl (by simp)
   rw [edG,app]
   simpa using h2
  ·have h2:=(play_edG r pre s t hc).2 ⟨e.f0,e.f1+1,e.f2⟩ (D++[x]) h0 (by simp [h1])
   rw [edG,app]
   rw [List.length_append,List.length_singleton] at h2
   rw [show t+(pre.length:Int)+(D.length:Int)+1=t+(pre.length:Int)+((D.length+1:Nat):Int) by omega]
   simpa using h2
 | .ins y :: r,pre,s,t,h=>by
  have hc:cnt r≤s.length:=by simpa [cnt] using h
  refine ⟨?_,fun e D h0 h1=>?_⟩
  ·have h2:=(play_edG r pre s t hc).2 ⟨t+pre.length,0,[y]⟩ [] rfl (by simp)
   rw [edG,app]
   simpa using h2
  ·have h2:=(play_edG r pre s t hc).2 ⟨e.f0,e.f1,e.f2++[y]⟩ D h0 h1
   rw [edG,app]
   simpa using h2
theorem ok_edG (many:Int):∀ (r:List Step) (fr t:Int),t+cnt r≤many →
  (fr≤t→okFrom fr many (edG none t r)=true)∧∀ e:Ed,fr≤e.f0→0≤e.f1→¬ (e.f1=0∧e.f2=[])→e.f0+e.f1=t→okFrom fr many (edG (some e) t r)=true
 | [],fr,t,h=>⟨fun _=>rfl,fun e h0 h1 h2 h3=>by
   simp only [cnt] at h
   simp only [edG,okFrom,Bool.and_true]
   exact decide_eq_true ⟨h0,h1,by omega,by omega,h2⟩⟩
 | .keep :: r,fr,t,h=>⟨fun hf=>by
   simp only [cnt] at h
   rw [edG]
   exact (ok_edG many r fr (t+1) (by push_cast at h;omega)).1 (by omega),fun e h0 h1 h2 h3=>by
   simp only [cnt] at h
   simp only [edG,okFrom]
   rw [decide_eq_true ⟨h0,h1,by push_cast at h;omega,by push_cast at h;omega,h2⟩,Bool.true_and]
   exact (ok_edG many r _ (t+1) (by push_cast at h;omega)).1 (by omega)⟩
 | .del :: r,fr,t,h=>⟨fun hf=>by
   simp only [cnt] at h
   rw [edG]
   exact (ok_edG many r fr (t+1) (by push_cast at h;omega)).2 ⟨t,1,[]⟩ hf (by simp) (by simp) rfl,fun e h0 h1 h2 h3=>by
   simp only [cnt] at h
   rw [edG]
   exact (ok_edG many r fr (t+1) (by push_cast at h;omega)).2 ⟨e.f0,e.f1+1,e.f2⟩ h0 (by show 0≤e.f1+1;omega) (fun hh=>by have:e.f1+1=0:=hh.1;omega) (by show e.f0+(e.f1+1)=t+1;omega)⟩
 | .ins y :: r,fr,t,h=>⟨fun hf=>by
   simp only [cnt] at h
   rw [edG]
   exact (ok_edG many r fr t h).2 ⟨t,0,[y]⟩ hf (by simp) (by simp) (by simp),fun e h0 h1 h2 h3=>by
   simp only [cnt] at h
   rw [edG]
   exact (ok_edG many r fr t h).2 ⟨e.f0,e.f1,e.f2++[y]⟩ h0 h1 (by simp) h3⟩
theorem size_edG:∀ (r:List Step) (t:Int),sizeE (edG none t r)=chg r∧∀ e:Ed,0≤e.f1→sizeE (edG (some e) t r)=e.f1+e.f2.length+chg r
 | [],t=>⟨by simp [edG,sizeE,chg],fun e h=>by simp only [edG,sizeE,chg];omega⟩
 | .keep :: r,t=>⟨by rw [edG,chg];exact (size_edG r _).1,fun e h=>by rw [edG,chg,sizeE,(size_edG r _).1];omega⟩
 | .del :: r,t=>⟨by rw [edG,chg,(size_edG r _).2 _ (by simp)];simp;omega,fun e h=>by rw [edG,chg,(size_edG r _).2 _ (by show 0≤e.f1+1;omega)];push_cast;omega⟩
 | .ins y :: r,t=>⟨by rw [edG,chg,(size_edG r _).2 _ (by simp)];simp;omega,fun e h=>by rw [edG,chg,(size_edG r _).2 ⟨e.f0,e.f1,e.f2++[y]⟩ h];simp;omega⟩
theorem steps_app (E:List ByteArray):∀ x y:List ByteArray,app (steps x y) (x++E)=y++E∧cnt (steps x y)=x.length
 | [],[]=>⟨by simp [steps,app],by simp [steps,cnt]⟩
 | [],y :: ys=>by
  have h:=steps_app E [] ys
  rw [steps]
  exact ⟨by rw [app,h.1];rfl,by rw [cnt,h.2]⟩
 | x :: xs,[]=>by
  have h:=steps_app E xs []
  rw [steps]
  exact ⟨by rw [List.cons_append,app,h.1],by rw [cnt,h.2];rfl⟩
 | x :: xs,y :: ys=>by
  rw [steps]
  by_cases hxy:x=y
  ·have h:=steps_app E xs ys
   rw [if_pos hxy]
   exact ⟨by rw [List.cons_append,app,h.1,hxy];rfl,by rw [cnt,h.2];rfl⟩
  ·rw [if_neg hxy]
   split
   ·have h:=steps_app E xs (y :: ys)
    exact ⟨by rw [List.cons_append,app,h.1],by rw [cnt,h.2];rfl⟩
   ·have h:=steps_app E (x :: xs) ys
    exact ⟨by rw [app,h.1];rfl,by rw [cnt,h.2]⟩
termination_by x y=>x.length+y.length
theorem lcs_nil (x:List ByteArray):lcsLen x []=0:=by cases x<;>simp [lcsLen]
theorem nil_lcs (y:List ByteArray):lcsLen [] y=0:=by simp [lcsLen]
theorem steps_chg:∀ x y:List ByteArray,chg (steps x y)+2 * lcsLen x y=x.length+y.length
 | [],[]=>by simp [steps,chg,lcsLen]
 | [],y :: ys=>by
  have h:=steps_chg [] ys
  rw [steps,chg,nil_lcs]
  rw [nil_lcs] at h
  simp at h ⊢
  omega
 | x :: xs,[]=>by
  have h:=steps_chg xs []
  rw [steps,chg,lcs_nil]
  rw [lcs_nil] at h
  simp at h ⊢
  omega
 | x :: xs,y :: ys=>by
  rw [steps,lcsLen]
  by_cases hxy:x=y
  ·have h:=steps_chg xs ys
   rw [if_pos hxy,if_pos hxy,chg]
   simp only [List.length_cons]
   omega
  ·rw [if_neg hxy,if_neg hxy]
   have h1:=steps_chg xs (y :: ys)
   have h2:=steps_chg (x :: xs) ys
   simp only [List.length_cons] at h1 h2 ⊢
   split
   ·rw [chg];omega
   ·rw [chg];omega
termination_by x y=>x.length+y.length
theorem commonE_le:∀ a b:List ByteArray,common a b≤a.length∧common a b≤b.length∧a.take (common a b)=b.take (common a b)
 | [],b=>by simp [common]
 | x :: xs,[]=>by simp [common]
 | x :: xs,y :: ys=>by
  rw [common]
  by_cases h:x=y
  ·have ih:=commonE_le xs ys
   rw [if_pos h]
   exact ⟨by simp;exact ih.1,by simp;exact ih.2.1,by rw [List.take_succ_cons,List.take_succ_cons,ih.2.2,h]⟩
  ·rw [if_neg h];simp
theorem between_split (a b:List ByteArray):∃ F x y E,a=F++(x++E)∧b=F++(y++E)∧between a b=midEdits (F.length:Int) x y:=by
 obtain ⟨h1,h2,h3⟩:=commonE_le a b
 generalize ha:a.drop (common a b)=a' 
 generalize hb:b.drop (common a b)=b'
 obtain ⟨g1,g2,g3⟩:=commonE_le a'.reverse b'.reverse
 rw [List.length_reverse] at g1 g2
 have hE:a'.drop (a'.length - common a'.reverse b'.reverse)=b'.drop (b'.length - common a'.reverse b'.reverse):=by
  apply List.reverse_inj.1
  rw [List.reverse_drop,List.reverse_drop,show a'.length - (a'.length - common a'.reverse b'.reverse)=common a'.reverse b'.reverse by omega,show b'.length - (b'.length - common a'.reverse b'.reverse)=common a'.reverse b'.reverse by omega]
  exact g3
 refine ⟨a.take (common a b),a'.take (a'.length - common a'.reverse b'.reverse),b'.take (b'.length - common a'.reverse b'.reverse),a'.drop (a'.length - common a'.reverse b'.reverse),?_,?_,?_⟩
 ·rw [List.take_append_drop,← ha,List.take_append_drop]
 ·rw [hE,List.take_append_drop,h3,← hb,List.take_append_drop]
 rw [between,midOf,endOf,frontOf,ha,hb,List.length_take,Nat.min_eq_left h1]
theorem playR_block (pre x y E:List ByteArray):playR (pre++(x++E)) 0 [⟨(pre.length:Int),(x.length:Int),y⟩]=pre++(y++E):=by
 simp only [playR]
 rw [show ((pre.length:Int) - 0).toNat=pre.length by omega,show ((pre.length:Int) - 0+(x.length:Int)).toNat=(pre++x).length by rw [List.length_append];omega,List.take_left,← List.append_assoc pre x,List.drop_left,List.append_assoc]
theorem mid_ok (F x y E:List ByteArray):okFrom 0 ((F++(x++E)).length:Int) (midEdits (F.length:Int) x y)=true∧playR (F++(x++E)) 0 (midEdits (F.length:Int) x y)=F++(y++E):=by
 rw [midEdits]
 by_cases c1:x=[]∧y=[]
 ·rw [if_pos c1]
  exact ⟨rfl,by rw [c1.1,c1.2];rfl⟩
 rw [if_neg c1]
 by_cases c2:x=[]∨y=[]∨65536<x.length * y.length
 ·rw [if_pos c2]
  refine ⟨?_,playR_block F x y E⟩
  simp only [okFrom,Bool.and_true,List.length_append]
  refine decide_eq_true ⟨by omega,by omega,by push_cast;omega,by push_cast;omega,fun h=>c1 ⟨List.eq_nil_of_length_eq_zero (by have:=h.1;omega),h.2⟩⟩
 rw [if_neg c2,(edits_edG _ _ []).1,List.nil_append]
 have hs:=steps_app E x y
 refine ⟨(ok_edG _ _ 0 _ (by rw [hs.2,List.length_append,List.length_append];push_cast;omega)).1 (by omega),?_⟩
 have h:=(play_edG (steps x y) F (x++E) 0 (by rw [hs.2,List.length_append];omega)).1
 rw [hs.1,Int.zero_add] at h
 exact h
theorem between_ok (a b:List ByteArray):okFrom 0 a.length (between a b)=true∧playFrom a 0 (between a b)=b:=by
 obtain ⟨F,x,y,E,rfl,rfl,e⟩:=between_split a b
 rw [e]
 have h:=mid_ok F x y E
 refine ⟨h.1,?_⟩
 rw [playFrom_R _ _ 0 0 (by omega) h.1,List.drop_zero]
 exact h.2
end Go.Proofs.Ytnmphfelebkaiaa.Pr
-- shrunk
/-
Longest common subsequences: what their lengths satisfy. Plain facts on lists.
-/
namespace Go.Proofs.Ytnmphfelebkaiaa.Pr
open List (Sublist)
theorem lcs_has:∀ x y:List ByteArray,∃ s:List ByteArray,s.Sublist x∧s.Sublist y∧s.length=lcsLen x y
 | [],y=>⟨[],List.nil_sublist _,List.nil_sublist _,by simp [lcsLen]⟩
 | x :: xs,[]=>⟨[],List.nil_sublist _,List.nil_sublist _,by simp [lcsLen]⟩
 | x :: xs,y :: ys=>by
  rw [lcsLen]
  by_cases h:x=y
  ·obtain ⟨s,h1,h2,h3⟩:=lcs_has xs ys
   rw [if_pos h]
   exact ⟨x :: s,h1.cons_cons x,by rw [h];exact h2.cons_cons y,by simp [h3]⟩
  ·rw [if_neg h]
   rcases Nat.le_total (lcsLen (x :: xs) ys) (lcsLen xs (y :: ys)) with hl|hl
   ·obtain ⟨s,h1,h2,h3⟩:=lcs_has xs (y :: ys)
    exact ⟨s,h1.cons x,h2,by rw [h3];omega⟩
   ·obtain ⟨s,h1,h2,h3⟩:=lcs_has (x :: xs) ys
    exact ⟨s,h1,h2.cons y,by rw [h3];omega⟩
termination_by x y=>x.length+y.length
theorem lcs_most:∀ (x y s:List ByteArray),s.Sublist x→s.Sublist y→s.length≤lcsLen x y
 | [],y,s,h1,h2=>by rw [List.sublist_nil.1 h1];simp
 | x :: xs,[],s,h1,h2=>by rw [List.sublist_nil.1 h2];simp
 | x :: xs,y :: ys,s,h1,h2=>by
  rw [lcsLen]
  by_cases h:x=y
  ·rw [if_pos h]
   match s with
   | []=>simp
   | z :: s' =>
    have g1:s'.Sublist xs:=by
     have:=List.Sublist.tail h1
     simpa using this
    have g2:s'.Sublist ys:=by
     have:=List.Sublist.tail h2
     simpa using this
    have:=lcs_most xs ys s' g1 g2
    simp only [List.length_cons]
    omega
  ·rw [if_neg h]
   cases h1 with
   | cons _ g1 =>
    have:=lcs_most xs (y :: ys) s g1 h2
    omega
   | cons_cons _ g1 =>
    cases h2 with
    | cons _ g2 =>
     have:=lcs_most (x :: xs) ys _ (g1.cons_cons x) g2
     omega
    | cons_cons _ g2=>exact absurd rfl h
termination_by x y=>x.length+y.length
theorem lcs_unique {x y:List ByteArray} {n:Nat} (h1:∃ s:List ByteArray,s.Sublist x∧s.Sublist y∧s.length=n) (h2:∀ s:List ByteArray,s.Sublist x→s.Sublist y→s.length≤n):lcsLen x y=n:=by
 obtain ⟨s,a1,a2,a3⟩:=h1
 obtain ⟨t,b1,b2,b3⟩:=lcs_has x y
 have:=lcs_most x y s a1 a2
 have:=h2 t b1 b2
 omega
theorem lcs_reverse (x y:List ByteArray):lcsLen x.reverse y.reverse=lcsLen x y:=by
 obtain ⟨t,b1,b2,b3⟩:=lcs_has x y
 refine lcs_unique ⟨t.reverse,b1.reverse,b2.reverse,by simpa using b3⟩ (fun s h1 h2=>?_)
 have:=lcs_most x y s.reverse (by have:=h1.reverse;simpa using this) (by have:=h2.reverse;simpa using this)
 simpa using this
theorem lcs_front:∀ (F x y:List ByteArray),lcsLen (F++x) (F++y)=F.length+lcsLen x y
 | [],x,y=>by simp
 | f :: F,x,y=>by rw [List.cons_append,List.cons_append,lcsLen,if_pos rfl,lcs_front F x y,List.length_cons];omega
theorem lcs_end (x y E:List ByteArray):lcsLen (x++E) (y++E)=lcsLen x y+E.length:=by
 rw [← lcs_reverse,List.reverse_append,List.reverse_append,lcs_front,lcs_reverse,List.length_reverse];omega
theorem lcs_le (a b:List ByteArray):lcsLen a b≤a.length∧lcsLen a b≤b.length:=by
 obtain ⟨s,a1,a2,a3⟩:=lcs_has a b
 rw [← a3]
 exact ⟨a1.length_le,a2.length_le⟩
theorem lcs_snoc (x y:List ByteArray) (e f:ByteArray):lcsLen (x++[e]) (y++[f])=if e=f then lcsLen x y+1 else max (lcsLen x (y++[f])) (lcsLen (x++[e]) y):=by
 rw [← lcs_reverse,List.reverse_append,List.reverse_append]
 show lcsLen (e :: x.reverse) (f :: y.reverse)=_
 rw [lcsLen,lcs_reverse]
 rw [show f :: y.reverse=(y++[f]).reverse by simp,show e :: x.reverse=(x++[e]).reverse by simp,lcs_reverse,lcs_reverse]
theorem between_size (a b:List ByteArray) (h:a.length * b.length≤65536):sizeE (between a b)+2 * (lcsLen a b:Int)=a.length+b.length:=by
 obtain ⟨F,x,y,E,rfl,rfl,e⟩:=between_split a b
 rw [e,lcs_front,lcs_end,midEdits]
 have hxy:x.length * y.length≤65536:=Nat.le_trans (Nat.mul_le_mul (by simp only [List.length_append];omega) (by simp only [List.length_append];omega)) h
 simp only [List.length_append]
 by_cases c1:x=[]∧y=[]
 ·rw [if_pos c1,c1.1,c1.2]
  simp [sizeE,lcsLen]
  omega
 rw [if_neg c1]
 by_cases c2:x=[]∨y=[]∨65536<x.length * y.length
 rotate_left
 ·rw [if_neg c2,(edits_edG _ _ []).1,List.nil_append,(size_edG _ _).1]
  have:=steps_chg x y
  push_cast
  omega
 rw [if_pos c2]
 have h0:lcsLen x y=0:=by
  rcases c2 with c|c|c
  ·rw [c,nil_lcs]
  ·rw [c,lcs_nil]
  omega
 rw [h0]
 simp only [sizeE]
 push_cast
 omega
end Go.Proofs.Ytnmphfelebkaiaa.Pr
-- shrunk
/-
Where the regions stand: the lines of either side behind the edits so far, cluster by cluster. Plain Lean.
-/
namespace Go.Proofs.Ytnmphfelebkaiaa.Pr
open Go.RowKit Go.Proofs.YtnmphfelebkaiaaW.PrintWords Go.Proofs.YtnmphfelebkaiaaW.PrintLast Go.Proofs.YtnmphfelebkaiaaW.PrintMore
def moreE:List Ed→Int
 | []=>0
 | e :: l=>((e.f2.length:Int) - e.f1)+moreE l
structure Sync (o a:List ByteArray) (t x:Nat) (l:List Ed):Prop where
 ht:t≤o.length
 hx:x≤a.length
 ok:okFrom t o.length l=true
 eq:a.drop x=playR (o.drop t) t l
theorem okFrom_le {fr fr' many:Int} {l:List Ed} (h:fr'≤fr) (ho:okFrom fr many l=true):okFrom fr' many l=true:=by
 cases l with
 | nil=>rfl
 | cons e l =>
  simp only [okFrom,Bool.and_eq_true,decide_eq_true_eq] at ho ⊢
  exact ⟨⟨by omega,ho.1.2⟩,ho.2⟩
theorem okFrom_head {fr many:Int} {e:Ed} {l:List Ed} (ho:okFrom fr many (e :: l)=true):fr≤e.f0∧0≤e.f1∧e.f0+e.f1≤many∧¬ (e.f1=0∧e.f2=[])∧okFrom (e.f0+e.f1+1) many l=true:=by
 simp only [okFrom,Bool.and_eq_true,decide_eq_true_eq] at ho
 exact ⟨by omega,by omega,by omega,ho.1.2.2.2.2,ho.2⟩
theorem okFrom_mem:∀ {l:List Ed} {fr many:Int},okFrom fr many l=true→∀ e ∈ l,fr≤e.f0∧0≤e.f1∧e.f0+e.f1≤many
 | e0 :: l,fr,many,ho,e,he=>by
  obtain ⟨h1,h2,h3,h4,h5⟩:=okFrom_head ho
  rcases List.mem_cons.1 he with rfl|he
  ·exact ⟨h1,h2,h3⟩
  ·have:=okFrom_mem h5 e he
   omega
theorem Sync.gap {o a:List ByteArray} {t x:Nat} {l:List Ed} (h:Sync o a t x l) {f:Nat} (h1:t≤f) (h2:f≤o.length) (h3:okFrom f o.length l=true) :
  Sync o a f (x+(f - t)) l∧(a.drop x).take (f - t)=(o.drop t).take (f - t):=by
 have he:=h.eq
 have hl:f - t≤(o.drop t).length:=by rw [List.length_drop];omega
 have key:playR (o.drop t) t l=(o.drop t).take (f - t)++playR (o.drop f) f l:=by
  have hd:o.drop f=(o.drop t).drop (f - t):=by rw [List.drop_drop];congr 1;omega
  cases l with
  | nil=>simp only [playR];rw [hd,List.take_append_drop]
  | cons e l =>
   obtain ⟨k1,k2,k3,_⟩:=okFrom_head h3
   simp only [playR]
   rw [← List.append_assoc]
   congr 1
   ·have e1:(e.f0 - (t:Int)).toNat=(f - t)+(e.f0 - (f:Int)).toNat:=by omega
    rw [e1,List.take_add,hd,List.append_assoc]
   have e2:(e.f0 - (t:Int)+e.f1).toNat=(f - t)+(e.f0 - (f:Int)+e.f1).toNat:=by omega
   rw [e2,← List.drop_drop,hd]
 have hx:=h.hx
 have hlen:x+(f - t)≤a.length:=by
  have h4:(a.drop x).length=((o.drop t).take (f - t)++playR (o.drop f) f l).length:=by rw [he,key]
  rw [List.length_append,List.length_take,Nat.min_eq_left hl,List.length_drop] at h4
  omega
 have ht:(a.drop x).take (f - t)=(o.drop t).take (f - t):=by
  rw [he,key,List.take_append_of_le_length (by rw [List.length_take];omega),List.take_take,Nat.min_self]
 refine ⟨⟨h2,hlen,h3,?_⟩,ht⟩
 rw [← List.drop_drop,he,key,List.drop_append_of_le_length (by rw [List.length_take];omega),List.drop_of_length_le (by rw [List.length_take];omega),List.nil_append]
theorem Sync.take {o a:List ByteArray}:∀ (p:List Ed) {f x:Nat} {l:List Ed} {t:Nat},Sync o a f x (p++l)→(∀ e ∈ p,e.f0+e.f1≤(t:Int))→f≤t→t≤o.length→okFrom t o.length l=true →
  ∃ y:Nat,(y:Int)=x+((t:Int) - f)+moreE p∧x≤y∧Sync o a t y l∧(p=[]→(a.drop x).take (y - x)=(o.drop f).take (t - f))
 | [],f,x,l,t,h,_,h1,h2,h3=>by
  obtain ⟨k1,k2⟩:=h.gap h1 h2 h3
  exact ⟨x+(t - f),by simp only [moreE];omega,by omega,k1,fun _=>by rw [show x+(t - f) - x=t - f by omega];exact k2⟩
 | e :: p,f,x,l,t,h,hp,h1,h2,h3=>by
  obtain ⟨c1,c2,c3,c4,c5⟩:=okFrom_head h.ok
  have hte:=hp e List.mem_cons_self
  obtain ⟨g,hg⟩:∃ g:Nat,(g:Int)=e.f0:=⟨e.f0.toNat,by omega⟩
  obtain ⟨d,hd⟩:∃ d:Nat,(d:Int)=e.f1:=⟨e.f1.toNat,by omega⟩
  obtain ⟨k1,_⟩:=h.gap (f:=g) (by omega) (by omega) (by
   have:=h.ok
   rw [List.cons_append] at this ⊢
   simp only [okFrom,Bool.and_eq_true,decide_eq_true_eq] at this ⊢
   exact ⟨⟨by omega,this.1.2⟩,this.2⟩)
  have he:=k1.eq
  rw [List.cons_append,playR,show (e.f0 - (g:Int)).toNat=0 by omega,List.take_zero,List.nil_append,show (e.f0 - (g:Int)+e.f1).toNat=d by omega,List.drop_drop,show e.f0+e.f1=((g+d:Nat):Int) by omega] at he
  have hx:x+(g - f)+e.f2.length≤a.length:=by
   have h4:=congrArg List.length he
   have:=k1.hx
   rw [List.length_append,List.length_drop] at h4
   omega
  have hs:Sync o a (g+d) (x+(g - f)+e.f2.length) (p++l):=⟨by omega,hx,okFrom_le (by omega) c5,by
   rw [← List.drop_drop,he,List.drop_append_of_le_length (Nat.le_refl _),List.drop_length,List.nil_append]⟩
  obtain ⟨y,y1,y2,y3,_⟩:=Sync.take p hs (fun e' he'=>hp e' (List.mem_cons_of_mem _ he')) (by omega) h2 h3
  exact ⟨y,by simp only [moreE];omega,by omega,y3,fun h=>by cases h⟩
structure Ate (c c':Cl) (l0 l1 l0' l1' p0 p1:List Ed):Prop where
 e0:l0=p0++l0'
 e1:l1=p1++l1'
 m0:c'.m0=c.m0+moreE p0
 m1:c'.m1=c.m1+moreE p1
 h0:c'.h0=(c.h0 || !p0.isEmpty)
 h1:c'.h1=(c.h1 || !p1.isEmpty)
 f:c'.f=c.f
 t:c.t≤c'.t
 n0:∀ e ∈ p0,e.f0+e.f1≤c'.t
 n1:∀ e ∈ p1,e.f0+e.f1≤c'.t
 s0:meetsE c'.t l0'=false
 s1:meetsE c'.t l1'=false
 top:∀ M:Int,c.t≤M→(∀ e ∈ p0,e.f0+e.f1≤M)→(∀ e ∈ p1,e.f0+e.f1≤M)→c'.t≤M
theorem hd_split {l:List Ed} (h:0<l.length):l=hdE l :: l.drop 1:=by
 cases l with
 | nil=>simp at h
 | cons e l=>rfl
theorem absorb_ate (l0 l1:List Ed) (c:Cl):∃ p0 p1,Ate c (absorb c l0 l1).1 l0 l1 (absorb c l0 l1).2.1 (absorb c l0 l1).2.2 p0 p1:=by
 generalize hn:l0.length+l1.length=n
 induction n using Nat.strongRecOn generalizing c l0 l1 with
 | _ n ih =>
  cases q0:meetsE c.t l0 with
  | true =>
   have hl:=meets_len q0
   rw [absorb_0 q0]
   obtain ⟨p0,p1,h⟩:=ih _ (by rw [← hn,List.length_drop];omega) (l0.drop 1) l1 (take0 c (hdE l0)) rfl
   have ht:max c.t ((hdE l0).f0+(hdE l0).f1)≤_:=h.t
   refine ⟨hdE l0 :: p0,p1,⟨by rw [List.cons_append,← h.e0];exact hd_split hl,h.e1,?_,h.m1,?_,h.h1,h.f,?_,?_,h.n1,h.s0,h.s1,?_⟩⟩
   ·rw [h.m0];simp only [Pr.take0,moreE];omega
   ·rw [h.h0];simp [Pr.take0]
   ·omega
   ·intro e he
    rcases List.mem_cons.1 he with rfl|he
    ·omega
    exact h.n0 e he
   intro M h1 h2 h3
   refine h.top M ?_ (fun e he=>h2 e (List.mem_cons_of_mem _ he)) h3
   have:=h2 _ List.mem_cons_self
   simp only [Pr.take0]
   omega
  | false =>
   cases q1:meetsE c.t l1 with
   | true =>
    have hl:=meets_len q1
    rw [absorb_1 q0 q1]
    obtain ⟨p0,p1,h⟩:=ih _ (by rw [← hn,List.length_drop];omega) l0 (l1.drop 1) (take1 c (hdE l1)) rfl
    have ht:max c.t ((hdE l1).f0+(hdE l1).f1)≤_:=h.t
    refine ⟨p0,hdE l1 :: p1,⟨h.e0,by rw [List.cons_append,← h.e1];exact hd_split hl,h.m0,?_,h.h0,?_,h.f,?_,h.n0,?_,h.s0,h.s1,?_⟩⟩
    ·rw [h.m1];simp only [Pr.take1,moreE];omega
    ·rw [h.h1];simp [Pr.take1]
    ·omega
    ·intro e he
     rcases List.mem_cons.1 he with rfl|he
     ·omega
     exact h.n1 e he
    intro M h1 h2 h3
    refine h.top M ?_ h2 (fun e he=>h3 e (List.mem_cons_of_mem _ he))
    have:=h3 _ List.mem_cons_self
    simp only [Pr.take1]
    omega
   | false =>
    rw [absorb_no q0 q1]
    exact ⟨[],[],⟨rfl,rfl,by simp [moreE],by simp [moreE],by simp,by simp,rfl,Int.le_refl _,by simp,by simp,q0,q1,fun M h _ _=>h⟩⟩
theorem okFrom_suffix:∀ (p:List Ed) {fr many:Int} {l:List Ed},okFrom fr many (p++l)=true→okFrom fr many l=true
 | [],fr,many,l,h=>h
 | e :: p,fr,many,l,h=>by
  obtain ⟨h1,h2,_,_,h5⟩:=okFrom_head h
  exact okFrom_le (by omega) (okFrom_suffix p h5)
theorem okFrom_past {t fr many:Int} {l:List Ed} (h:okFrom fr many l=true) (hm:meetsE t l=false):okFrom (t+1) many l=true:=by
 cases l with
 | nil=>rfl
 | cons e l =>
  have h1:¬ e.f0≤t:=by simpa [meetsE,hdE] using hm
  simp only [okFrom,Bool.and_eq_true,decide_eq_true_eq] at h ⊢
  exact ⟨⟨by omega,h.1.2⟩,h.2⟩
theorem okFrom_hd {t many:Int} {l:List Ed} (h:okFrom t many l=true) {f:Int} (hf:0<l.length→f≤(hdE l).f0):okFrom f many l=true:=by
 cases l with
 | nil=>rfl
 | cons e l =>
  have h1:=hf (by simp)
  have h2:hdE (e :: l)=e:=rfl
  rw [h2] at h1
  simp only [okFrom,Bool.and_eq_true,decide_eq_true_eq] at h ⊢
  exact ⟨⟨by omega,h.1.2⟩,h.2⟩
theorem okFrom_hd_b {t many:Int} {l:List Ed} (h:okFrom t many l=true) (h0:0<l.length):t≤(hdE l).f0∧(hdE l).f0≤many:=by
 cases l with
 | nil=>simp at h0
 | cons e l =>
  obtain ⟨h1,h2,h3,_⟩:=okFrom_head h
  have h4:hdE (e :: l)=e:=rfl
  rw [h4]
  omega
theorem start_spec {t many:Int} {l0 l1:List Ed} (h0:okFrom t many l0=true) (h1:okFrom t many l1=true) (hl:0<l0.length+l1.length) :
  t≤(startC l0 l1).f∧(startC l0 l1).f≤many∧okFrom (startC l0 l1).f many l0=true∧okFrom (startC l0 l1).f many l1=true:=by
 cases hs:side1 l0 l1 with
 | true =>
  have e:(startC l0 l1).f=(hdE l1).f0:=by simp only [startC,if_pos hs]
  simp only [side1,Bool.or_eq_true,Bool.and_eq_true,decide_eq_true_eq] at hs
  have hb:=okFrom_hd_b h1 (by omega)
  rw [e]
  exact ⟨hb.1,hb.2,okFrom_hd h0 (fun h=>by omega),okFrom_hd h1 (fun _=>Int.le_refl _)⟩
 | false =>
  have e:(startC l0 l1).f=(hdE l0).f0:=by simp only [startC,hs];rfl
  simp only [side1,Bool.or_eq_false_iff,Bool.and_eq_false_iff,decide_eq_false_iff_not] at hs
  have hb:=okFrom_hd_b h0 (by omega)
  rw [e]
  exact ⟨hb.1,hb.2,okFrom_hd h0 (fun _=>Int.le_refl _),okFrom_hd h1 (fun h=>by omega)⟩
structure Inv (o a b:List ByteArray) (s:Rs) (l0 l1:List Ed) (t x y:Nat):Prop where
 at_:s.at_=(t:Int)
 so:s.last.f1.f0+s.last.f1.f1=(t:Int)
 sa:s.last.f2.f0+s.last.f2.f1=(x:Int)
 sb:s.last.f3.f0+s.last.f3.f1=(y:Int)
 po:0≤s.last.f1.f0∧0≤s.last.f1.f1
 pa:0≤s.last.f2.f0∧0≤s.last.f2.f1
 pb:0≤s.last.f3.f0∧0≤s.last.f3.f1
 A:Sync o a t x l0
 B:Sync o b t y l1
structure Rnd (o a b:List ByteArray) (s:Rs) (l0 l1:List Ed) (t x y:Nat) (c:Cl) (l0' l1' p0 p1:List Ed) (f x1 y1 t2 x2 y2:Nat):Prop where
 ate:Ate (startC l0 l1) c l0 l1 l0' l1' p0 p1
 cf:c.f=(f:Int)
 ct:c.t=(t2:Int)
 m0:c.m0=moreE p0
 m1:c.m1=moreE p1
 h0:c.h0=!p0.isEmpty
 h1:c.h1=!p1.isEmpty
 tf:t≤f
 ft:f≤t2
 ex1:x1=x+(f - t)
 ey1:y1=y+(f - t)
 ex2:(x2:Int)=x1+((t2:Int) - f)+moreE p0
 ey2:(y2:Int)=y1+((t2:Int) - f)+moreE p1
 lx:x1≤x2
 ly:y1≤y2
 ga:(a.drop x).take (f - t)=(o.drop t).take (f - t)
 gb:(b.drop y).take (f - t)=(o.drop t).take (f - t)
 na:p0=[]→(a.drop x1).take (x2 - x1)=(o.drop f).take (t2 - f)
 nb:p1=[]→(b.drop y1).take (y2 - y1)=(o.drop f).take (t2 - f)
 A2:Sync o a t2 x2 l0'
 B2:Sync o b t2 y2 l1'
 k0:okFrom (t2+1) o.length l0'=true
 k1:okFrom (t2+1) o.length l1'=true
 f0:okFrom f o.length l0=true
 f1:okFrom f o.length l1=true
 some_:p0≠[]∨p1≠[]
 less:l0'.length+l1'.length<l0.length+l1.length
theorem Inv.round {o a b:List ByteArray} {s:Rs} {l0 l1:List Ed} {t x y:Nat} (h:Inv o a b s l0 l1 t x y) (hl:0<l0.length+l1.length) :
  ∃ p0 p1 f x1 y1 t2 x2 y2,Rnd o a b s l0 l1 t x y (absorb (startC l0 l1) l0 l1).1 (absorb (startC l0 l1) l0 l1).2.1 (absorb (startC l0 l1) l0 l1).2.2 p0 p1 f x1 y1 t2 x2 y2:=by
 obtain ⟨p0,p1,hate⟩:=absorb_ate l0 l1 (startC l0 l1)
 have hlt:=start_lt l0 l1 hl
 obtain ⟨s1,s2,s3,s4⟩:=start_spec h.A.ok h.B.ok hl
 have hst:(startC l0 l1).t=(startC l0 l1).f:=rfl
 obtain ⟨f,hf⟩:∃ f:Nat,(f:Int)=(startC l0 l1).f:=⟨(startC l0 l1).f.toNat,by omega⟩
 rw [← hf] at s1 s2 s3 s4
 generalize hR:absorb (startC l0 l1) l0 l1=R at hate hlt ⊢
 obtain ⟨c,l0',l1'⟩:=R
 simp only at hate hlt ⊢
 have hct:c.t≤o.length:=hate.top _ (by rw [hst,← hf];exact s2) (fun e he=>(okFrom_mem h.A.ok e (by rw [hate.e0];exact List.mem_append_left _ he)).2.2) (fun e he=>(okFrom_mem h.B.ok e (by rw [hate.e1];exact List.mem_append_left _ he)).2.2)
 have htl:=hate.t
 rw [hst,← hf] at htl
 obtain ⟨t2,ht2⟩:∃ t2:Nat,(t2:Int)=c.t:=⟨c.t.toNat,by omega⟩
 obtain ⟨gA,ga⟩:=h.A.gap (f:=f) (by omega) (by omega) s3
 obtain ⟨gB,gb⟩:=h.B.gap (f:=f) (by omega) (by omega) s4
 have k0:okFrom (t2+1) o.length l0'=true:=by
  rw [ht2]
  exact okFrom_past (okFrom_suffix p0 (by rw [← hate.e0];exact s3)) hate.s0
 have k1:okFrom (t2+1) o.length l1'=true:=by
  rw [ht2]
  exact okFrom_past (okFrom_suffix p1 (by rw [← hate.e1];exact s4)) hate.s1
 obtain ⟨x2,ex2,lx,A2,na⟩:=Sync.take p0 (l:=l0') (t:=t2) (by rw [← hate.e0];exact gA) (fun e he=>by rw [ht2];exact hate.n0 e he) (by omega) (by omega) (okFrom_le (by omega) k0)
 obtain ⟨y2,ey2,ly,B2,nb⟩:=Sync.take p1 (l:=l1') (t:=t2) (by rw [← hate.e1];exact gB) (fun e he=>by rw [ht2];exact hate.n1 e he) (by omega) (by omega) (okFrom_le (by omega) k1)
 have hm0:=hate.m0
 have hm1:=hate.m1
 have hh0:=hate.h0
 have hh1:=hate.h1
 have hff:=hate.f
 have z0:(startC l0 l1).m0=0:=rfl
 have z1:(startC l0 l1).m1=0:=rfl
 have z2:(startC l0 l1).h0=false:=rfl
 have z3:(startC l0 l1).h1=false:=rfl
 rw [z0] at hm0
 rw [z1] at hm1
 rw [z2,Bool.false_or] at hh0
 rw [z3,Bool.false_or] at hh1
 refine ⟨p0,p1,f,_,_,t2,x2,y2,⟨hate,by rw [hff,hf],ht2.symm,by omega,by omega,hh0,hh1,by omega,by omega,rfl,rfl,ex2,ey2,lx,ly,ga,gb,na,nb,A2,B2,k0,k1,s3,s4,?_,hlt⟩⟩
 have e0:=congrArg List.length hate.e0
 have e1:=congrArg List.length hate.e1
 rw [List.length_append] at e0 e1
 by_cases hp:p0=[]
 rotate_left
 ·exact .inl hp
 right
 intro hq
 rw [hp] at e0
 rw [hq] at e1
 simp at e0 e1
 omega
theorem Rnd.gapped {o a b:List ByteArray} {s:Rs} {l0 l1:List Ed} {t x y:Nat} {c:Cl} {l0' l1' p0 p1:List Ed} {f x1 y1 t2 x2 y2:Nat} (h:Inv o a b s l0 l1 t x y) (R:Rnd o a b s l0 l1 t x y c l0' l1' p0 p1 f x1 y1 t2 x2 y2) :
  (gapR s c).last.f1.f0+(gapR s c).last.f1.f1=(f:Int)∧(gapR s c).last.f2.f0+(gapR s c).last.f2.f1=(x1:Int)∧(gapR s c).last.f3.f0+(gapR s c).last.f3.f1=(y1:Int) ∧
  (0≤(gapR s c).last.f1.f0∧0≤(gapR s c).last.f1.f1)∧(0≤(gapR s c).last.f2.f0∧0≤(gapR s c).last.f2.f1)∧(0≤(gapR s c).last.f3.f0∧0≤(gapR s c).last.f3.f1) ∧
  (t<f→gapR s c=⟨⟨0,⟨(t:Int),((f - t:Nat):Int)⟩,⟨(x:Int),((f - t:Nat):Int)⟩,⟨(y:Int),((f - t:Nat):Int)⟩⟩,s.out++[⟨0,⟨(t:Int),((f - t:Nat):Int)⟩,⟨(x:Int),((f - t:Nat):Int)⟩,⟨(y:Int),((f - t:Nat):Int)⟩⟩],s.at_⟩)∧(¬ t<f→gapR s c=s):=by
 have e1:=h.at_
 have e2:=R.cf
 have e3:=R.tf
 have e4:=R.ex1
 have e5:=R.ey1
 by_cases hg:t<f
 ·have e6:(c.f - s.at_)=((f - t:Nat):Int):=by omega
  have hgap:gapR s c=⟨⟨0,⟨(t:Int),((f - t:Nat):Int)⟩,⟨(x:Int),((f - t:Nat):Int)⟩,⟨(y:Int),((f - t:Nat):Int)⟩⟩,s.out++[⟨0,⟨(t:Int),((f - t:Nat):Int)⟩,⟨(x:Int),((f - t:Nat):Int)⟩,⟨(y:Int),((f - t:Nat):Int)⟩⟩],s.at_⟩:=by
   rw [gapR,if_pos (by omega),addR,h.so,h.sa,h.sb,e6,Int.add_zero]
  refine ⟨?_,?_,?_,?_,?_,?_,fun _=>hgap,fun h=>absurd hg h⟩<;>rw [hgap]<;>simp only<;>omega
 have hgap:gapR s c=s:=by rw [gapR,if_neg (by omega)]
 have h1:=h.so
 have h2:=h.sa
 have h3:=h.sb
 refine ⟨?_,?_,?_,?_,?_,?_,fun h=>absurd h hg,fun _=>hgap⟩<;>rw [hgap]
 ·omega
 ·omega
 ·omega
 ·exact h.po
 ·exact h.pa
 exact h.pb
theorem Rnd.reg {o a b:List ByteArray} {s:Rs} {l0 l1:List Ed} {t x y:Nat} {c:Cl} {l0' l1' p0 p1:List Ed} {f x1 y1 t2 x2 y2:Nat} (h:Inv o a b s l0 l1 t x y) (R:Rnd o a b s l0 l1 t x y c l0' l1' p0 p1 f x1 y1 t2 x2 y2) :
  addR (gapR s c).last (c.t - c.f) c.m0 c.m1=⟨0,⟨(f:Int),((t2 - f:Nat):Int)⟩,⟨(x1:Int),((x2 - x1:Nat):Int)⟩,⟨(y1:Int),((y2 - y1:Nat):Int)⟩⟩:=by
 obtain ⟨g1,g2,g3,_⟩:=R.gapped h
 have e1:=R.cf
 have e2:=R.ct
 have e3:=R.m0
 have e4:=R.m1
 have e5:=R.ex2
 have e6:=R.ey2
 have e7:=R.lx
 have e8:=R.ly
 have e9:=R.ft
 rw [addR,g1,g2,g3,show c.t - c.f=((t2 - f:Nat):Int) by omega,show ((t2 - f:Nat):Int)+c.m0=((x2 - x1:Nat):Int) by omega,show ((t2 - f:Nat):Int)+c.m1=((y2 - y1:Nat):Int) by omega]
def regN (k:Int) (f t x1 x2 y1 y2:Nat):S32:=⟨k,⟨(f:Int),((t - f:Nat):Int)⟩,⟨(x1:Int),((x2 - x1:Nat):Int)⟩,⟨(y1:Int),((y2 - y1:Nat):Int)⟩⟩
theorem Rnd.step {o a b:List ByteArray} {s:Rs} {l0 l1:List Ed} {t x y:Nat} {c:Cl} {l0' l1' p0 p1:List Ed} {f x1 y1 t2 x2 y2:Nat} (h:Inv o a b s l0 l1 t x y) (R:Rnd o a b s l0 l1 t x y c l0' l1' p0 p1 f x1 y1 t2 x2 y2) :
  stepR a b s c=⟨regN 0 f t2 x1 x2 y1 y2,(gapR s c).out++[regN (kindP c ((a.drop x1).take (x2 - x1)) ((b.drop y1).take (y2 - y1))) f t2 x1 x2 y1 y2],(t2:Int)⟩:=by
 simp only [stepR]
 rw [R.reg h,R.ct]
 simp only [cutP,Int.toNat_natCast,kinded,regN]
theorem Rnd.inv {o a b:List ByteArray} {s:Rs} {l0 l1:List Ed} {t x y:Nat} {c:Cl} {l0' l1' p0 p1:List Ed} {f x1 y1 t2 x2 y2:Nat} (h:Inv o a b s l0 l1 t x y) (R:Rnd o a b s l0 l1 t x y c l0' l1' p0 p1 f x1 y1 t2 x2 y2):Inv o a b (stepR a b s c) l0' l1' t2 x2 y2:=by
 rw [R.step h]
 have e7:=R.lx
 have e8:=R.ly
 have e9:=R.ft
 exact ⟨rfl,by simp only [regN];omega,by simp only [regN];omega,by simp only [regN];omega,by simp only [regN];omega,by simp only [regN];omega,by simp only [regN];omega,R.A2,R.B2⟩
theorem gap_len (s:Rs) (c:Cl):(gapR s c).out.length≤s.out.length+1:=by
 rw [gapR]
 split
 ·simp
 omega
theorem step_len (a b:List ByteArray) (s:Rs) (c:Cl):(stepR a b s c).out.length≤s.out.length+2:=by
 have:=gap_len s c
 simp only [stepR,List.length_append,List.length_singleton]
 omega
theorem Inv.last_b {o a b:List ByteArray} {s:Rs} {l0 l1:List Ed} {t x y:Nat} (h:Inv o a b s l0 l1 t x y) (ho:o.length≤1048576) (ha:a.length≤1048576) (hb:b.length≤1048576):S32B s.last:=by
 have h1:=h.so
 have h2:=h.sa
 have h3:=h.sb
 have h4:=h.po
 have h5:=h.pa
 have h6:=h.pb
 have h7:=h.A.ht
 have h8:=h.A.hx
 have h9:=h.B.hx
 refine ⟨?_,?_,?_,?_,?_,?_⟩<;>unfold SpB<;>omega
theorem run_fit {o a b:List ByteArray} (ho:o.length≤1048576) (ha:a.length≤1048576) (hb:b.length≤1048576):∀ (pre:List Cl) (c:Cl) (rest:List Cl) (s:Rs) (l0 l1:List Ed) (t x y:Nat),Inv o a b s l0 l1 t x y→s.out.length+2 * (l0.length+l1.length)≤1099511627000 →
  clusters l0 l1=pre++c :: rest→Fit a.length b.length (pre.foldl (stepR a b) s) c
 | [],c,rest,s,l0,l1,t,x,y,h,hn,hc=>by
  have hl:0<l0.length+l1.length:=by
   rcases Nat.eq_zero_or_pos (l0.length+l1.length) with h0|h0
   ·rw [clusters_nil h0] at hc;cases hc
   ·exact h0
  obtain ⟨p0,p1,f,x1,y1,t2,x2,y2,R⟩:=h.round hl
  rw [clusters_cons hl,List.nil_append] at hc
  injection hc with hc _
  rw [hc] at R
  rw [List.foldl_nil]
  obtain ⟨g1,g2,g3,g4,g5,g6,_⟩:=R.gapped h
  have i1:=R.A2.ht
  have i2:=R.A2.hx
  have i3:=R.B2.hx
  have e1:=R.cf
  have e2:=R.ct
  have e3:=R.m0
  have e4:=R.m1
  have e5:=R.ex2
  have e6:=R.ey2
  have e7:=R.lx
  have e8:=R.ly
  have e9:=R.ft
  have e10:=h.at_
  have e11:=R.tf
  refine ⟨h.last_b ho ha hb,?_,by unfold SmB;omega,by unfold SmB;omega,by unfold SmB;omega,by unfold SmB;omega,by unfold SmB;omega,?_,⟨x1,x2 - x1,?_,by omega⟩,⟨y1,y2 - y1,?_,by omega⟩⟩
  ·refine ⟨?_,?_,?_,?_,?_,?_⟩<;>unfold SpB<;>omega
  ·show s.out.length≤_
   omega
  ·show (addR (gapR s c).last (c.t - c.f) c.m0 c.m1).f2=_
   rw [R.reg h]
  ·show (addR (gapR s c).last (c.t - c.f) c.m0 c.m1).f3=_
   rw [R.reg h]
 | c0 :: pre,c,rest,s,l0,l1,t,x,y,h,hn,hc=>by
  have hl:0<l0.length+l1.length:=by
   rcases Nat.eq_zero_or_pos (l0.length+l1.length) with h0|h0
   ·rw [clusters_nil h0] at hc;cases hc
   ·exact h0
  obtain ⟨p0,p1,f,x1,y1,t2,x2,y2,R⟩:=h.round hl
  rw [clusters_cons hl,List.cons_append] at hc
  injection hc with hc hc2
  rw [hc] at R
  have h3:=step_len a b s c0
  have h4:=R.less
  exact run_fit ho ha hb pre c rest (stepR a b s c0) _ _ _ _ _ (R.inv h) (by omega) hc2
theorem run_end {o a b:List ByteArray} (ho:o.length≤1048576) (ha:a.length≤1048576) (hb:b.length≤1048576):∀ (n:Nat) (s:Rs) (l0 l1:List Ed) (t x y:Nat),l0.length+l1.length=n→Inv o a b s l0 l1 t x y→s.out.length+2 * (l0.length+l1.length)≤1099511627000 →
  FitE ((clusters l0 l1).foldl (stepR a b) s)∧∃ t2 x2 y2,Inv o a b ((clusters l0 l1).foldl (stepR a b) s) [] [] t2 x2 y2:=by
 intro n
 induction n using Nat.strongRecOn with
 | _ n ih =>
  intro s l0 l1 t x y hn h hm
  rcases Nat.eq_zero_or_pos (l0.length+l1.length) with h0|h0
  ·rw [clusters_nil h0,List.foldl_nil]
   have z0:l0=[]:=List.length_eq_zero_iff.1 (by omega)
   have z1:l1=[]:=List.length_eq_zero_iff.1 (by omega)
   subst z0 z1
   have h7:=h.A.ht
   have e:=h.at_
   exact ⟨⟨h.last_b ho ha hb,by unfold SmB;omega,by simp at hm;exact hm⟩,t,x,y,h⟩
  obtain ⟨p0,p1,f,x1,y1,t2,x2,y2,R⟩:=h.round h0
  rw [clusters_cons h0,List.foldl_cons]
  have h3:=step_len a b s (absorb (startC l0 l1) l0 l1).1
  have h4:=R.less
  exact ih _ (by omega) _ _ _ _ _ _ rfl (R.inv h) (by omega)
theorem len_le_size':∀ (l:List Ed) (fr many:Int),okFrom fr many l=true→(l.length:Int)≤sizeE l∧∀ e ∈ l,(e.f2.length:Int)≤sizeE l
 | [],fr,many,h=>by simp [sizeE]
 | e :: l,fr,many,h=>by
  obtain ⟨h1,h2,h3,h4,h5⟩:=okFrom_head h
  obtain ⟨i1,i2⟩:=len_le_size' l _ _ h5
  have hn:=sizeE_nonneg l
  have hp:1≤e.f1+(e.f2.length:Int):=by
   by_cases hz:e.f1=0
   ·have hne:e.f2≠[]:=fun hh=>h4 ⟨hz,hh⟩
    have:=List.length_pos_iff.2 hne
    omega
   ·omega
  refine ⟨by simp only [sizeE,List.length_cons];omega,fun e' he'=>?_⟩
  simp only [sizeE]
  rcases List.mem_cons.1 he' with rfl|he'
  ·omega
  ·have:=i2 e' he'
   omega
theorem inv_start (o a b:List ByteArray):Inv o a b ⟨z32,[],0⟩ (between o a) (between o b) 0 0 0:=by
 obtain ⟨k0,q0⟩:=between_ok o a
 obtain ⟨k1,q1⟩:=between_ok o b
 have w0:=playFrom_R o (between o a) 0 0 (by omega) k0
 have w1:=playFrom_R o (between o b) 0 0 (by omega) k1
 exact ⟨rfl,by decide,by decide,by decide,by decide,by decide,by decide,⟨by omega,by omega,k0,by rw [← w0,List.drop_zero];exact q0.symm⟩,⟨by omega,by omega,k1,by rw [← w1,List.drop_zero];exact q1.symm⟩⟩
theorem small_mul' {m n:Nat} (h:m≤40) (h':n≤40):m * n≤65536:=Nat.le_trans (Nat.mul_le_mul h h') (by omega)
theorem between_b (o a:List ByteArray) (ho:o.length≤40) (ha:a.length≤40):(∀ e ∈ between o a,EdOk e)∧(between o a).length≤80:=by
 obtain ⟨k0,_⟩:=between_ok o a
 have hs:=between_size o a (small_mul' ho ha)
 obtain ⟨i1,i2⟩:=len_le_size' _ _ _ k0
 refine ⟨fun e he=>?_,by omega⟩
 have h1:=okFrom_mem k0 e he
 have h2:=i2 e he
 exact ⟨by omega,by omega,by omega,by omega⟩
theorem regs_ok (o a b:List ByteArray) (ho:o.length≤40) (ha:a.length≤40) (hb:b.length≤40):RegsOk o a b:=by
 obtain ⟨b0,n0⟩:=between_b o a ho ha
 obtain ⟨b1,n1⟩:=between_b o b ho hb
 have hi:=inv_start o a b
 refine ⟨by omega,by omega,by omega,b0,b1,by omega,by omega,fun pre c rest hc=>?_,?_⟩
 ·exact run_fit (by omega) (by omega) (by omega) pre c rest _ _ _ _ _ _ hi (by simp;omega) hc
 exact (run_end (by omega) (by omega) (by omega) _ _ _ _ _ _ _ rfl hi (by simp;omega)).1
def align_Regions.f (o a b:List ByteArray):Option (List S32):=if o.length≤40∧a.length≤40∧b.length≤40 then some (regionsP o a b) else none
theorem regions_some (o a b:List ByteArray) (ho:o.length≤40) (ha:a.length≤40) (hb:b.length≤40):align_Regions.f o a b=some (regionsP o a b):=by
 rw [align_Regions.f,if_pos ⟨ho,ha,hb⟩]
theorem align_Regions.calls (A0:Option Addr) (c0:Nat) (l0:List ByteArray) (A1:Option Addr) (c1:Nat) (l1:List ByteArray) (A2:Option Addr) (c2:Nat) (l2:List ByteArray) (r:List S32) (w:World)
  (hr0:Kd.C Kd.string w A0 l0.length l0) (hc0:l0.length≤c0) (hr1:Kd.C Kd.string w A1 l1.length l1) (hc1:l1.length≤c1) (hr2:Kd.C Kd.string w A2 l2.length l2) (hc2:l2.length≤c2) (h:align_Regions.f l0 l1 l2=some r) :
  Calls Try.prog 9 #[.slice A0 l0.length c0,.slice A1 l1.length c1,.slice A2 l2.length c2] w fun e w'=>∃ v0_:Value,e=.returned (v0_)∧Kd.R k32 32 w' w.heap.size (fun _=>True) v0_ r∧Below w.heap.size w w':=by
 unfold align_Regions.f at h
 split at h
 rotate_left
 ·cases h
 rename_i hl
 refine align_Regions0.calls A0 c0 l0 A1 c1 l1 A2 c2 l2 r w hr0 hc0 hr1 hc1 hr2 hc2 ?_
 rw [align_Regions0.f,if_pos (regs_ok l0 l1 l2 hl.1 hl.2.1 hl.2.2)]
 exact h
end Go.Proofs.Ytnmphfelebkaiaa.Pr
-- shrunk
/-
A cluster's edits hang together. Plain Lean.
-/
namespace Go.Proofs.Ytnmphfelebkaiaa.Pr
structure TieT (l:List Ed) (f t:Int) (T:Nat→Prop):Prop where
 cov:((∀ i,¬ T i)∧t=f)∨(∀ x,f≤x→x≤t→∃ i,T i∧(edA l i).f0≤x∧x≤(edA l i).f0+(edA l i).f1)
 hang:∀ S:Nat→Bool,∀ i k,T i→T k→S i=true→S k=false→∃ i k,T i∧T k∧S i=true∧S k=false∧meetP (edA l k) (edA l i)=true
theorem TieT.add {l:List Ed} {f t:Int} {T T':Nat→Prop} {e:Nat} (h:TieT l f t T) (hT:∀ i,T' i ↔ T i∨i=e) (h0:f≤(edA l e).f0) (h1:(edA l e).f0≤t) (h2:0≤(edA l e).f1):TieT l f (max t ((edA l e).f0+(edA l e).f1)) T':=by
 have he:T' e:=(hT e).2 (.inr rfl)
 refine ⟨.inr fun x x1 x2=>?_,?_⟩
 ·rcases h.cov with ⟨hn,ht⟩|hcov
  ·exact ⟨e,he,by omega,by omega⟩
  by_cases hx:x≤t
  ·obtain ⟨i,i1,i2,i3⟩:=hcov x x1 hx
   exact ⟨i,(hT i).2 (.inl i1),i2,i3⟩
  exact ⟨e,he,by omega,by omega⟩
 intro S i k hi hk si sk
 rcases h.cov with ⟨hn,ht⟩|hcov
 ·have a:=(hT i).1 hi
  have b:=(hT k).1 hk
  have a':i=e:=a.resolve_left (hn i)
  have b':k=e:=b.resolve_left (hn k)
  rw [a',← b',sk] at si
  cases si
 obtain ⟨g,g1,g2,g3⟩:=hcov _ h0 h1
 have hm:meetP (edA l e) (edA l g)=true:=by
  rw [meetP,Bool.and_eq_true,decide_eq_true_eq,decide_eq_true_eq]
  exact ⟨g3,by omega⟩
 have hg:T' g:=(hT g).2 (.inl g1)
 have up:∀ i k,T i→T k→S i=true→S k=false→∃ i k,T' i∧T' k∧S i=true∧S k=false∧meetP (edA l k) (edA l i)=true:=by
  intro i k hi hk si sk
  obtain ⟨a,b,a1,b1,a2,b2,m⟩:=h.hang S i k hi hk si sk
  exact ⟨a,b,(hT a).2 (.inl a1),(hT b).2 (.inl b1),a2,b2,m⟩
 rcases (hT i).1 hi with hi|hi
 ·rcases (hT k).1 hk with hk|hk
  ·exact up i k hi hk si sk
  subst hk
  cases hsg:S g with
  | true=>exact ⟨g,k,hg,he,hsg,sk,hm⟩
  | false=>exact up i g hi g1 si hsg
 subst hi
 rcases (hT k).1 hk with hk|hk
 ·cases hsg:S g with
  | true=>exact up g k g1 hk hsg sk
  | false=>exact ⟨i,g,he,hg,si,hsg,by rw [meetP_comm];exact hm⟩
 rw [hk,si] at sk;cases sk
def inT (is i js j:Nat) (x:Nat):Bool:=(decide (is≤x) && decide (x<i)) || (decide (js≤x) && decide (x<j))
theorem inT_iff {is i js j x:Nat}:inT is i js j x=true ↔ (is≤x∧x<i)∨(js≤x∧x<j):=by simp [inT]
theorem absorb_tie (l:List Ed) (is js:Nat):∀ n l0 l1 c i j,l0.length+l1.length=n→is≤i→js≤j→i+l0.length≤js→(∀ a,a<l0.length→edA l (i+a)=edA l0 a)→(∀ b,b<l1.length→edA l (j+b)=edA l1 b) →
  (∀ e ∈ l0,c.f≤e.f0∧0≤e.f1)→(∀ e ∈ l1,c.f≤e.f0∧0≤e.f1)→TieT l c.f c.t (fun x=>inT is i js j x=true) →
  ∃ a b,(absorb c l0 l1).2.1=l0.drop a∧(absorb c l0 l1).2.2=l1.drop b∧a≤l0.length∧b≤l1.length∧(absorb c l0 l1).1.f=c.f∧TieT l c.f (absorb c l0 l1).1.t (fun x=>inT is (i+a) js (j+b) x=true):=by
 intro n
 induction n using Nat.strongRecOn with
 | _ n ih =>
  intro l0 l1 c i j hn hi hj hij h0 h1 e0 e1 ht
  cases q0:meetsE c.t l0 with
  | true =>
   have hl:=meets_len q0
   have hh:hdE l0=edA l i:=by have:=h0 0 hl;rw [Nat.add_zero] at this;rw [this];rfl
   have hm:hdE l0 ∈ l0:=by rw [hd_split hl];exact List.mem_cons_self
   have hle:(hdE l0).f0≤c.t:=by
    rw [meetsE,Bool.and_eq_true,decide_eq_true_eq,decide_eq_true_eq] at q0
    exact q0.2
   rw [absorb_0 q0]
   have hd:(l0.drop 1).length=l0.length - 1:=List.length_drop ..
   have hA:TieT l c.f (take0 c (hdE l0)).t (fun x=>inT is (i+1) js j x=true):=by
    simp only [take0,hh]
    refine ht.add (e:=i) (fun x=>?_) (by rw [← hh];exact (e0 _ hm).1) (by rw [← hh];exact hle) (by rw [← hh];exact (e0 _ hm).2)
    rw [inT_iff,inT_iff];omega
   obtain ⟨a,b,r1,r2,r3,r4,r5,r6⟩:=ih _ (by omega) (l0.drop 1) l1 (take0 c (hdE l0)) (i+1) j rfl (by omega) hj (by omega)
    (fun a ha=>by rw [show i+1+a=i+(a+1) by omega,h0 (a+1) (by omega)];simp [edA,List.getD_eq_getElem?_getD])
    h1 (fun e he=>e0 e (List.mem_of_mem_drop he)) e1 hA
   exact ⟨a+1,b,by rw [r1,List.drop_drop,Nat.add_comm],r2,by omega,r4,r5,by rw [show i+(a+1)=i+1+a by omega];exact r6⟩
  | false =>
   cases q1:meetsE c.t l1 with
   | true =>
    have hl:=meets_len q1
    have hh:hdE l1=edA l j:=by have:=h1 0 hl;rw [Nat.add_zero] at this;rw [this];rfl
    have hm:hdE l1 ∈ l1:=by rw [hd_split hl];exact List.mem_cons_self
    have hle:(hdE l1).f0≤c.t:=by
     rw [meetsE,Bool.and_eq_true,decide_eq_true_eq,decide_eq_true_eq] at q1
     exact q1.2
    rw [absorb_1 q0 q1]
    have hd:(l1.drop 1).length=l1.length - 1:=List.length_drop ..
    have hA:TieT l c.f (take1 c (hdE l1)).t (fun x=>inT is i js (j+1) x=true):=by
     simp only [take1,hh]
     refine ht.add (e:=j) (fun x=>?_) (by rw [← hh];exact (e1 _ hm).1) (by rw [← hh];exact hle) (by rw [← hh];exact (e1 _ hm).2)
     rw [inT_iff,inT_iff];omega
    obtain ⟨a,b,r1,r2,r3,r4,r5,r6⟩:=ih _ (by omega) l0 (l1.drop 1) (take1 c (hdE l1)) i (j+1) rfl hi (by omega) hij
     h0 (fun a ha=>by rw [show j+1+a=j+(a+1) by omega,h1 (a+1) (by omega)];simp [edA,List.getD_eq_getElem?_getD])
     e0 (fun e he=>e1 e (List.mem_of_mem_drop he)) hA
    exact ⟨a,b+1,r1,by rw [r2,List.drop_drop,Nat.add_comm],r3,by omega,r5,by rw [show j+(b+1)=j+1+b by omega];exact r6⟩
   | false =>
    rw [absorb_no q0 q1]
    exact ⟨0,0,rfl,rfl,Nat.zero_le _,Nat.zero_le _,rfl,ht⟩
end Go.Proofs.Ytnmphfelebkaiaa.Pr
-- shrunk
