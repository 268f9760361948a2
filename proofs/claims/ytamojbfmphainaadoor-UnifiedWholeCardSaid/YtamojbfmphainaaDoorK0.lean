/-
Several plain texts in one.
-/
import Derived.Test.YtamojbfmphainaaDoorProg
import Derived.Below
import Derived.Deep.Draws
import Derived.Deep.AppendLies
import Derived.Maps.AppendAt
import Derived.OwnWalk
import Derived.Laws.BytesArg
import Derived.Laws.MakeOwn
import Derived.Laws.OwnMore
import Derived.Deep.OwnRows
import Derived.Tactics
import Derived.Lib.ConvBytes
import Derived.Laws.Slices
import Derived.WalkKit
import Derived.KernelRfl
import Derived.RowKit3
import Derived.Deep.LoopGhost
import Derived.Deep.QuietTactic
import Derived.BigQuiet
import Derived.WideLaws
import Derived.Deep.DeepCutAuto
import Derived.Deep.CutBlock
import Derived.Deep.RegionHeld3
import Derived.Laws.Rows
import Derived.Lib.AppendStr
import Derived.ArgAppend
import Derived.Laws.IdiomCopy
import Derived.OrdersHeld
import Derived.Laws.BitsLemmas
import Derived.RowKit
import Derived.Laws.Runes
import Derived.Test.YtamojbfmphainaaDoorWWords
import Derived.Test.YtamojbfmphainaaDoorWLast
import Derived.Test.YtamojbfmphainaaDoorWTab
import Derived.Test.YtamojbfmphainaaDoorWFour
import Derived.Test.YtamojbfmphainaaDoorWQPut
import Derived.Test.YtamojbfmphainaaDoorWApart
import Derived.Test.YtamojbfmphainaaDoorWArr
import Derived.Test.YtamojbfmphainaaDoorWZeros
import Derived.Test.YtamojbfmphainaaDoorWFoot
import Derived.Test.YtamojbfmphainaaDoorWKept
import Derived.Test.YtamojbfmphainaaDoorWShare
import Derived.Test.YtamojbfmphainaaDoorWN
import Derived.Test.YtamojbfmphainaaDoorWFootNe
import Derived.Test.YtamojbfmphainaaDoorWAt
import Derived.Test.YtamojbfmphainaaDoorWEqStruct
import Derived.Test.YtamojbfmphainaaDoorWRepsOne
import Derived.Test.YtamojbfmphainaaDoorWInv
import Derived.Test.YtamojbfmphainaaDoorWInvWords
import Derived.Test.YtamojbfmphainaaDoorWGuard
import Derived.Test.YtamojbfmphainaaDoorWNEv
import Derived.Test.YtamojbfmphainaaDoorWMore
import Derived.WalkSpells
set_option linter.unusedVariables false
set_option linter.unusedSimpArgs false
-- written by a program of this session's (a turned copy of the kit's printer); Lean checks it
namespace Go.Proofs.YtamojbfmphainaaDoor.Pr
open Go.RowKit Go.Proofs.YtamojbfmphainaaDoorW.PrintWords Go.Proofs.YtamojbfmphainaaDoorW.PrintLast Go.Proofs.YtamojbfmphainaaDoorW.PrintMore
attribute [local go_sem] max2_int min2_int max_two min_two max_three min_three max_four min_four   -- for this text's walks alone



def errW:Option Int→Value
 | none=>.nilIface
 | some c=>.iface 0 (.int .i64 c)
theorem errW_none:errW none=.nilIface:=rfl
theorem errW_some (c:Int):errW (some c)=.iface 0 (.int .i64 c):=rfl

theorem info9:(Tryd.prog.info? 9).map (fun i=>(i.zero,i.size,i.bytes))=some (some (.string ⟨#[]⟩),1,16):=by kernel_rfl
theorem info41:(Tryd.prog.info? 41).map (fun i=>(i.zero,i.size,i.bytes))=some (some (.agg #[(.int .i64 0),(.int .i64 0),(.int .i64 0),(.int .i64 0),(.slice none 0 0)]),5,56):=by kernel_rfl
theorem info72:(Tryd.prog.info? 72).map (fun i=>(i.zero,i.size,i.bytes))=some (some (.agg #[(.int .i64 0),(.int .i64 0),(.slice none 0 0)]),3,40):=by kernel_rfl
structure S41 where
 f0:Int
 f1:Int
 f2:Int
 f3:Int
 f4:(List ByteArray)
def z41:S41:=⟨(0:Int),(0:Int),(0:Int),(0:Int),([]:List ByteArray)⟩
def k41:Kd S41:=Kd.iso (Kd.pair (Kd.int .i64) (Kd.pair (Kd.int .i64) (Kd.pair (Kd.int .i64) (Kd.pair (Kd.int .i64) (Kd.slice 9 Kd.string))))) (fun x:S41=>(x.f0,x.f1,x.f2,x.f3,x.f4))
theorem k41_open {w:World} {x:S41} {cs:List Value} (h:k41.K w x cs):∃ A4 c4,cs=[.int .i64 x.f0,.int .i64 x.f1,.int .i64 x.f2,.int .i64 x.f3,.slice A4 x.f4.length c4]∧x.f4.length≤c4∧Kd.string.C w A4 x.f4.length x.f4:=by
 obtain ⟨_,_,rfl,rfl,⟨_,_,rfl,rfl,⟨_,_,rfl,rfl,⟨_,_,rfl,rfl,⟨A4,c4,rfl,l4,g4⟩⟩⟩⟩⟩:=h
 exact ⟨A4,c4,rfl,l4,g4⟩
theorem k41_openM {w:World} {base:Nat} {ok:Nat→Prop} {x:S41} {cs:List Value} (h:k41.M w base ok x cs):∃ v4,cs=[.int .i64 x.f0,.int .i64 x.f1,.int .i64 x.f2,.int .i64 x.f3,v4]∧Kd.string.R 9 w base ok v4 x.f4:=by
 obtain ⟨_,_,rfl,rfl,⟨_,_,rfl,rfl,⟨_,_,rfl,rfl,⟨_,_,rfl,rfl,⟨v4,rfl,g4⟩⟩⟩⟩⟩:=h
 exact ⟨v4,rfl,g4⟩
theorem k41_mk (w:World) (x:S41) {A4:Option Addr} {c4:Nat} (l4:x.f4.length≤c4) (g4:Kd.string.C w A4 x.f4.length x.f4):k41.K w x [.int .i64 x.f0,.int .i64 x.f1,.int .i64 x.f2,.int .i64 x.f3,.slice A4 x.f4.length c4]:=⟨[.int .i64 x.f0],[.int .i64 x.f1,.int .i64 x.f2,.int .i64 x.f3,.slice A4 x.f4.length c4],rfl,rfl,⟨[.int .i64 x.f1],[.int .i64 x.f2,.int .i64 x.f3,.slice A4 x.f4.length c4],rfl,rfl,⟨[.int .i64 x.f2],[.int .i64 x.f3,.slice A4 x.f4.length c4],rfl,rfl,⟨[.int .i64 x.f3],[.slice A4 x.f4.length c4],rfl,rfl,⟨A4,c4,rfl,l4,g4⟩⟩⟩⟩⟩
theorem k41_mkM (w:World) (base:Nat) (ok:Nat→Prop) (x:S41) {v4:Value} (g4:Kd.string.R 9 w base ok v4 x.f4):k41.M w base ok x [.int .i64 x.f0,.int .i64 x.f1,.int .i64 x.f2,.int .i64 x.f3,v4]:=⟨[.int .i64 x.f0],[.int .i64 x.f1,.int .i64 x.f2,.int .i64 x.f3,v4],rfl,rfl,⟨[.int .i64 x.f1],[.int .i64 x.f2,.int .i64 x.f3,v4],rfl,rfl,⟨[.int .i64 x.f2],[.int .i64 x.f3,v4],rfl,rfl,⟨[.int .i64 x.f3],[v4],rfl,rfl,⟨v4,rfl,g4⟩⟩⟩⟩⟩
def rd_T41 (xs:List S41) (i:Int):S41:=xs.getD i.toNat z41
theorem at_T41 {w:World} {A:Option Addr} {n:Nat} {xs:List S41} (h:Kd.C k41 w A n xs) (i:Int) (h0:0≤i) (h1:i<n):∃ ad A4 c4,A=some ad∧w.cell? (ad.add (i.toNat * 5))=some (.int .i64 (rd_T41 xs i).f0)∧w.cell? ⟨(ad.add (i.toNat * 5)).block,(ad.add (i.toNat * 5)).off+1,none⟩=some (.int .i64 (rd_T41 xs i).f1)∧w.cell? ⟨(ad.add (i.toNat * 5)).block,(ad.add (i.toNat * 5)).off+2,none⟩=some (.int .i64 (rd_T41 xs i).f2)∧w.cell? ⟨(ad.add (i.toNat * 5)).block,(ad.add (i.toNat * 5)).off+3,none⟩=some (.int .i64 (rd_T41 xs i).f3)∧w.cell? ⟨(ad.add (i.toNat * 5)).block,(ad.add (i.toNat * 5)).off+4,none⟩=some (.slice A4 (rd_T41 xs i).f4.length c4)∧(rd_T41 xs i).f4.length≤c4∧Kd.string.C w A4 (rd_T41 xs i).f4.length (rd_T41 xs i).f4:=by
 obtain ⟨ad,c,e,_,hK,hc0⟩:=Kd.C_get h z41 i h0 h1
 have hc:∀ j u,c[j]?=some u→w.cell? (ad.add (i.toNat * 5+j))=some u:=hc0
 obtain ⟨A4,c4,rfl,l4,g4⟩:=k41_open hK
 exact ⟨ad,A4,c4,e,hc 0 _ rfl,by rw [← add_field _ _ 1 (by omega)];exact hc 1 _ rfl,by rw [← add_field _ _ 2 (by omega)];exact hc 2 _ rfl,by rw [← add_field _ _ 3 (by omega)];exact hc 3 _ rfl,by rw [← add_field _ _ 4 (by omega)];exact hc 4 _ rfl,l4,g4⟩

structure S72 where
 f0:Int
 f1:Int
 f2:(List ByteArray)
def z72:S72:=⟨(0:Int),(0:Int),([]:List ByteArray)⟩
def k72:Kd S72:=Kd.iso (Kd.pair (Kd.int .i64) (Kd.pair (Kd.int .i64) (Kd.slice 9 Kd.string))) (fun x:S72=>(x.f0,x.f1,x.f2))
theorem k72_open {w:World} {x:S72} {cs:List Value} (h:k72.K w x cs):∃ A2 c2,cs=[.int .i64 x.f0,.int .i64 x.f1,.slice A2 x.f2.length c2]∧x.f2.length≤c2∧Kd.string.C w A2 x.f2.length x.f2:=by
 obtain ⟨_,_,rfl,rfl,⟨_,_,rfl,rfl,⟨A2,c2,rfl,l2,g2⟩⟩⟩:=h
 exact ⟨A2,c2,rfl,l2,g2⟩
theorem k72_openM {w:World} {base:Nat} {ok:Nat→Prop} {x:S72} {cs:List Value} (h:k72.M w base ok x cs):∃ v2,cs=[.int .i64 x.f0,.int .i64 x.f1,v2]∧Kd.string.R 9 w base ok v2 x.f2:=by
 obtain ⟨_,_,rfl,rfl,⟨_,_,rfl,rfl,⟨v2,rfl,g2⟩⟩⟩:=h
 exact ⟨v2,rfl,g2⟩
theorem k72_mkM (w:World) (base:Nat) (ok:Nat→Prop) (x:S72) {v2:Value} (g2:Kd.string.R 9 w base ok v2 x.f2):k72.M w base ok x [.int .i64 x.f0,.int .i64 x.f1,v2]:=⟨[.int .i64 x.f0],[.int .i64 x.f1,v2],rfl,rfl,⟨[.int .i64 x.f1],[v2],rfl,rfl,⟨v2,rfl,g2⟩⟩⟩
theorem k72_openF {W:World} {ok:Nat→Prop} {x:S72} {cs:List Value} (h:Kd.FK k72 W ok x cs):∃ A2 c2,cs=[.int .i64 x.f0,.int .i64 x.f1,.slice A2 x.f2.length c2]∧x.f2.length≤c2∧Kd.F Kd.string W ok A2 x.f2.length x.f2:=by
 obtain ⟨A2,c2,rfl,l2,_⟩:=k72_open (Kd.FK_now h)
 exact ⟨A2,c2,rfl,l2,(fun W' hW=>by obtain ⟨A2_,c2_,he,l2_,g2_⟩:=k72_open (h W' hW);injection (Option.some.inj (show some (Value.slice A2 x.f2.length c2)=some (Value.slice A2_ x.f2.length c2_) from congrArg (fun l=>l[2]?) he)) with ha_ _ _;rw [ha_];exact g2_)⟩
def rd_T72 (xs:List S72) (i:Int):S72:=xs.getD i.toNat z72
theorem at_T72 {w:World} {A:Option Addr} {n:Nat} {xs:List S72} (h:Kd.C k72 w A n xs) (i:Int) (h0:0≤i) (h1:i<n):∃ ad A2 c2,A=some ad∧w.cell? (ad.add (i.toNat * 3))=some (.int .i64 (rd_T72 xs i).f0)∧w.cell? ⟨(ad.add (i.toNat * 3)).block,(ad.add (i.toNat * 3)).off+1,none⟩=some (.int .i64 (rd_T72 xs i).f1)∧w.cell? ⟨(ad.add (i.toNat * 3)).block,(ad.add (i.toNat * 3)).off+2,none⟩=some (.slice A2 (rd_T72 xs i).f2.length c2)∧(rd_T72 xs i).f2.length≤c2∧Kd.string.C w A2 (rd_T72 xs i).f2.length (rd_T72 xs i).f2:=by
 obtain ⟨ad,c,e,_,hK,hc0⟩:=Kd.C_get h z72 i h0 h1
 have hc:∀ j u,c[j]?=some u→w.cell? (ad.add (i.toNat * 3+j))=some u:=hc0
 obtain ⟨A2,c2,rfl,l2,g2⟩:=k72_open hK
 exact ⟨ad,A2,c2,e,hc 0 _ rfl,by rw [← add_field _ _ 1 (by omega)];exact hc 1 _ rfl,by rw [← add_field _ _ 2 (by omega)];exact hc 2 _ rfl,l2,g2⟩

end Go.Proofs.YtamojbfmphainaaDoor.Pr
-- shrunk
/-
Contracts of slices.Clone, slices.Grow (of a nil slice) and slices.Concat at []string: what they answer, for lists of at most 2^42 elements.
-/
namespace Go.Proofs.YtamojbfmphainaaDoor.Pr
open Go.RowKit Go.Proofs.YtamojbfmphainaaDoorW.PrintWords Go.Proofs.YtamojbfmphainaaDoorW.PrintLast Go.Proofs.YtamojbfmphainaaDoorW.PrintMore
theorem ginfoStr:(Tryd.prog.info? 9).map (fun i=>(i.zero,i.size,i.bytes))=some (some (.string ⟨#[]⟩),1,16):=by kernel_rfl
theorem at_strs {w:World} {A:Option Addr} {xs:List (List ByteArray)} (h:Kd.C (Kd.slice 9 Kd.string) w A xs.length xs) (i:Nat) (hi:i<xs.length):∃ ad A0 c0,A=some ad∧w.cell? (ad.add i)=some (.slice A0 (xs[i]).length c0)∧(xs[i]).length≤c0∧Kd.string.C w A0 (xs[i]).length (xs[i]):=by
 obtain ⟨ad,e,hc⟩:=h.2.2 (by omega)
 obtain ⟨c,_,⟨A0,c0,rfl,l0,g0⟩,h3⟩:=hc i (xs[i]) (List.getElem?_eq_getElem hi)
 have h4:=h3 0 _ rfl
 rw [show (Kd.slice 9 Kd.string).sz=1 from rfl,Nat.mul_one,Nat.add_zero] at h4
 exact ⟨ad,A0,c0,e,h4,l0,g0⟩
def slices_Clone_string_string.f (l0:List ByteArray):Option (List ByteArray):=if l0.length≤4398046511104 then some l0 else none
set_option maxHeartbeats 400000 in
theorem slices_Clone_string_string.calls (A0:Option Addr) (c0:Nat) (l0:List ByteArray) (r:List ByteArray) (w:World) (hr0:Kd.C Kd.string w A0 l0.length l0) (hc0:l0.length≤c0) (h:slices_Clone_string_string.f l0=some r) :
  Calls Tryd.prog 44 #[.slice A0 l0.length c0] w fun e w'=>∃ v0_:Value,e=.returned (v0_)∧Kd.R Kd.string 9 w' w.heap.size (fun _=>True) v0_ r∧Below w.heap.size w w':=by
 unfold slices_Clone_string_string.f at h
 by_cases hl:l0.length≤4398046511104
 ·rw [if_pos hl] at h
  obtain rfl:=Option.some.inj h
  have HR:=Aside0.mk hr0
  have HC:=Aside0.mk hc0
  clear h hr0 hc0
  rcases A0 with _|ad
  ·have he:=fun W=>Lib.run_eql_slice_nil (P:=Tryd.prog) W 33 9 none l0.length c0 0 0 Tryd.underlying33
   have h0:l0=[]:=by
    rcases Nat.eq_zero_or_pos l0.length with h0|h0
    ·exact List.eq_nil_of_length_eq_zero h0
    ·obtain ⟨ad,h,_⟩:=HR.out.2.2 h0
     cases h
   have H0:=Aside0.mk h0
   clear h0
   go_enter Tryd.func44,Tryd.ntmps44
   go_wp2
   go_ret
   refine ⟨_,rfl,?_,Below.refl _ _⟩
   rw [H0.out]
   exact Kd.R_nil _ _ _ _ _
  ·have he:=fun W=>Lib.run_eql_slice_nil (P:=Tryd.prog) W 33 9 (some ad) l0.length c0 0 0 Tryd.underlying33
   go_enter Tryd.func44,Tryd.ntmps44
   have HB:=Aside0.mk (Below.refl w.heap.size w)
   go_wp2_with (first|((with_reducible refine gate_dst (N:=5) rfl ?_);(try (refine gate_guard (by rfl) ?_;dsimp only));refine Kd.R_lit Kd.string w.heap.size 9 ?hg (N:=5) ?hd (xs:=([]:List ByteArray)) (inner:=[]) (ok:=fun _=>True) (okp:=fun _=>True) ?hr ?hp (fun _ hk=>hk) trivial HB.out (Nat.le_refl _) (by simp) ?_;(case hd=>rfl);(case hg=>rfl);(case hr=>first|(go_simp;done)|(go_simp;rfl));(case hp=>exact (Reps.none _ _));intro v1 w1 ho hb hg_ hnew_;clear hg_ hnew_;have HO:=Aside0.mk ho;have HBb:=Aside0.mk hb;clear ho hb)|(at_builtin;refine Kd.R_append_rows Kd.string (w0:=w) w.heap.size rfl (.tmp 5) (.tmp 6) 33 9 (.string ⟨#[]⟩) 16 rfl Tryd.underlying33 ginfoStr rfl (by decide) (by omega) v1 [] l0 _ _ _ (fun _=>True) (fun _=>False) rfl rfl HO.out (Kd.C_below HR.out HBb.out) (fun _ _ h=>h) (fun _ h=>h.elim) (fun _ _=>trivial) HBb.out HBb.out.size (by simp;omega) ?_;intro v2 w2 ho hb hg hat;have HO2:=Aside0.mk ho;have HB2:=Aside0.mk hb;clear ho hb hg hat))
   go_ret
   exact ⟨_,rfl,HO2.out,HB2.out⟩
 ·rw [if_neg hl] at h;cases h
set_option maxHeartbeats 400000 in
theorem slices_Grow_nil (n:Int) (w:World) (h0:0≤n) (hn:n.toNat≤4398046511104) :
  Calls Tryd.prog 81 #[.slice none 0 0,.int .i64 n] w fun e w'=>∃ v0_:Value,e=.returned (v0_)∧Kd.R Kd.string 9 w' w.heap.size (fun _=>True) v0_ []∧Below w.heap.size w w':=by
 have HB:=Aside0.mk (Below.refl w.heap.size w)
 have f0:decide (n<0)=false:=by simp;omega
 by_cases hp:0<n
 ·have f1:decide (0<n)=true:=by simp;omega
  go_enter Tryd.func81,Tryd.ntmps81
  go_wp2_with (first|((with_reducible refine gate_builtin (b:=.append) (xs:=#[.tmp 20,.tmp 21]) rfl ?_);(at_builtin;refine Kd.R_append_zeros Kd.string (w0:=w) w.heap.size rfl (.tmp 20) (.tmp 21) 33 3 9 (.string ⟨#[]⟩) 16 rfl Tryd.underlying33 Tryd.underlying3 ginfoStr rfl (by decide) (by omega) (.slice none 0 0) [] ByteArray.empty n (fun _=>True) rfl rfl rfl (fun _ _=>trivial) (Kd.R_nil _ _ _ _ _) (by omega) HB.out (Nat.le_refl _) (by simp;omega) ?_;intro v2 w2 ho hb hg hat;have HO2:=Aside0.mk ho;have HB2:=Aside0.mk hb;clear ho hb hg hat;obtain ⟨A2,c2,e2⟩:=Kd.R_slice HO2.out;subst e2)))
  go_ret
  exact ⟨_,rfl,by simpa using Kd.R_take (m:=0) HO2.out (Nat.zero_le _),HB2.out⟩
 ·have f1:decide (0<n)=false:=by simp;omega
  go_enter Tryd.func81,Tryd.ntmps81
  go_wp2
  go_ret
  exact ⟨_,rfl,Kd.R_nil _ _ _ _ _,HB.out⟩
def slices_Concat_string_string.f (l0:List (List ByteArray)):Option (List ByteArray):=if l0.flatten.length≤4398046511104 then some l0.flatten else none
def flk (l:List (List ByteArray)) (k:Nat):List ByteArray:=(l.take k).flatten
theorem flk_zero (l:List (List ByteArray)):flk l 0=[]:=by simp [flk]
theorem flk_succ (l:List (List ByteArray)) (i:Nat) (h:i<l.length):flk l (i+1)=flk l i++l[i]:=by
 unfold flk;rw [List.take_succ_eq_append_getElem h,List.flatten_append];simp
theorem flk_all (l:List (List ByteArray)) (k:Nat) (h:¬ k<l.length):flk l k=l.flatten:=by
 unfold flk;rw [List.take_of_length_le (by omega)]
theorem flk_le (l:List (List ByteArray)) (i:Nat):(flk l i).length≤l.flatten.length:=by
 have h:=List.take_append_drop i l
 have h2:l.flatten.length=(l.take i).flatten.length+(l.drop i).flatten.length:=by rw [← List.length_append,← List.flatten_append,h]
 unfold flk;omega
set_option maxHeartbeats 1000000 in
theorem slices_Concat_string_string.calls (A0:Option Addr) (c0:Nat) (l0:List (List ByteArray)) (r:List ByteArray) (w:World) (hr0:Kd.C (Kd.slice 9 Kd.string) w A0 l0.length l0) (hc0:l0.length≤c0) (h:slices_Concat_string_string.f l0=some r) :
  Calls Tryd.prog 68 #[.slice A0 l0.length c0] w fun e w'=>∃ v0_:Value,e=.returned (v0_)∧Kd.R Kd.string 9 w' w.heap.size (fun _=>True) v0_ r∧Below w.heap.size w w':=by
 unfold slices_Concat_string_string.f at h
 by_cases hl:l0.flatten.length≤4398046511104
 ·rw [if_pos hl] at h
  obtain rfl:=Option.some.inj h
  have HR:=Aside0.mk hr0
  have HC:=Aside0.mk hc0
  have HL:=Aside0.mk hl
  have hm:l0.length≤9223372036854775807:=hr0.2.1
  clear h hr0 hc0 hl
  have HB:=Aside0.mk (Below.refl w.heap.size w)
  go_enter Tryd.func68,Tryd.ntmps68
  go_wp2
  go_loopw [3,11] (fun sz i w'=>∃ k:Nat,k≤l0.length∧i=.int .i64 k∧sz=.int .i64 ((flk l0 k).length)∧Drawn0 w w') (fun _ i _=>l0.length - (intOf i).toNat)
  case atStart=>exact ⟨0,Nat.zero_le _,rfl,by simp [flk_zero],Drawn0.refl _⟩
  case round =>
   obtain ⟨k,hk,rfl,rfl,⟨nd,rfl⟩⟩:=hrel
   by_cases hlt:k<l0.length
   ·have hle:=flk_le l0 (k+1)
    have HF:=Aside0.mk (flk_succ l0 k hlt)
    obtain ⟨ad,A1,c1,e1,hx',hc1,hC1⟩:=at_strs (Kd.C_drewN HR.out nd) k hlt
    cases e1
    clear hC1 hc1
    have f1:decide ((k:Int)<(l0.length:Int))=true:=by simp;omega
    have g0:(flk l0 (k+1)).length=(flk l0 k).length+(l0[k]).length:=by rw [HF.out,List.length_append]
    have G0:=Aside0.mk g0
    have g1:0≤((flk l0 k).length:Int)+((l0[k]).length:Int):=by omega
    have g2:((flk l0 k).length:Int)+((l0[k]).length:Int)≤4398046511104:=by
     have h1:=HL.out
     omega
    have f2:decide (((flk l0 k).length:Int)+((l0[k]).length:Int)<0)=false:=by simp;omega
    clear hle g0
    go_wp2
    go_roundw
    case rel=>exact ⟨k+1,by omega,by go_num,by rw [G0.out];go_num,⟨⟨nd,rfl⟩⟩⟩
    case measure=>simp [intOf];omega
   ·have f1:decide ((k:Int)<(l0.length:Int))=false:=by simp;omega
    have HA:=Aside0.mk (flk_all l0 k hlt)
    have HN:(flk l0 k).length≤4398046511104:=by rw [HA.out];exact HL.out
    go_wp2_with (go_at_call 81;(refine (slices_Grow_nil ((flk l0 k).length:Int) _ (by omega) (by omega)).mono ?_;rintro e w1 ⟨v1,rfl,ho,hb⟩;have HO:=Aside0.mk ho;have HB1:=Aside0.mk hb;clear ho hb))
    have HBw:=Aside0.mk (show Below w.heap.size w w1 from (pw_below_drewN (Below.refl _ _) nd).trans HB1.out)
    have HOw:=Aside0.mk (show Kd.R Kd.string 9 w1 w.heap.size (fun _=>True) v1 [] from HO.out)
    clear HB1 HO HA HN hlt hk f1
    go_loopw [6,27] (fun v i wr=>∃ j:Nat,j≤l0.length∧i=.int .i64 j∧Aside0 (Kd.R Kd.string 9 wr w.heap.size (fun _=>True) v (flk l0 j))∧Aside0 (Below w.heap.size w wr)) (fun _ i _=>l0.length - (intOf i).toNat)
    case atStart=>exact ⟨0,Nat.zero_le _,rfl,by rw [flk_zero];exact HOw,HBw⟩
    case round =>
     clear HOw HBw
     obtain ⟨j,hj,rfl,HO,HBw⟩:=hrel
     by_cases hlt:j<l0.length
     ·have hle:=flk_le l0 (j+1)
      have HF:=Aside0.mk (flk_succ l0 j hlt)
      obtain ⟨ad,A1,c1,e1,hx',hc1,hC1⟩:=at_strs (Kd.C_below HR.out HBw.out) j hlt
      cases e1
      have HC1:=Aside0.mk hC1
      clear hC1 hc1
      have f1:decide ((j:Int)<(l0.length:Int))=true:=by simp;omega
      have g0:(flk l0 (j+1)).length=(flk l0 j).length+(l0[j]).length:=by rw [HF.out,List.length_append]
      have g2:(flk l0 j).length+(l0[j]).length≤4398046511104:=by
       have h1:=HL.out
       omega
      clear hle g0
      go_wp2_with ((with_reducible refine gate_builtin (b:=.append) (xs:=#[.tmp 31,.tmp 32]) rfl ?_);(at_builtin;refine Kd.R_append_rows Kd.string (w0:=w) w.heap.size rfl (.tmp 31) (.tmp 32) 33 9 (.string ⟨#[]⟩) 16 rfl Tryd.underlying33 ginfoStr rfl (by decide) (by omega) _ (flk l0 j) (l0[j]) _ _ _ (fun _=>True) (fun _=>False) rfl rfl HO.out HC1.out (fun _ _ h=>h) (fun _ h=>h.elim) (fun _ _=>trivial) HBw.out HBw.out.size (by omega) ?_;intro v2 w2 ho hb hg hat;have HO2:=Aside0.mk ho;have HB2:=Aside0.mk hb;clear ho hb hg hat))
      go_roundw
      case rel=>exact ⟨j+1,by omega,by go_num,by rw [HF.out];exact HO2,HB2⟩
      case measure=>simp [intOf];omega
     ·have f1:decide ((j:Int)<(l0.length:Int))=false:=by simp;omega
      have HA:=Aside0.mk (flk_all l0 j hlt)
      go_wp2
      go_ret
      exact ⟨_,rfl,by rw [← HA.out];exact HO.out,HBw.out⟩
 ·rw [if_neg hl] at h;cases h
end Go.Proofs.YtamojbfmphainaaDoor.Pr
-- shrunk
/-
What is between two lists of texts, as plain functions on lists: the longest common subsequence's length, the way, and the edits of the way.
-/
namespace Go.Proofs.YtamojbfmphainaaDoor.Pr
open Go.RowKit Go.Proofs.YtamojbfmphainaaDoorW.PrintWords Go.Proofs.YtamojbfmphainaaDoorW.PrintLast Go.Proofs.YtamojbfmphainaaDoorW.PrintMore
abbrev Ed:=S72
def lcsLen:List ByteArray→List ByteArray→Nat
 | [],_=>0
 | _ :: _,[]=>0
 | x :: xs,y :: ys=>if x=y then lcsLen xs ys+1 else max (lcsLen xs (y :: ys)) (lcsLen (x :: xs) ys)
termination_by xs ys=>xs.length+ys.length
inductive Step where
 | keep
 | del
 | ins (s:ByteArray)
def steps:List ByteArray→List ByteArray→List Step
 | [],[]=>[]
 | [],y :: ys=>.ins y :: steps [] ys
 | _ :: xs,[]=>.del :: steps xs []
 | x :: xs,y :: ys=>if x=y then .keep :: steps xs ys else if lcsLen (x :: xs) ys≤lcsLen xs (y :: ys) then .del :: steps xs (y :: ys) else .ins y :: steps (x :: xs) ys
termination_by xs ys=>xs.length+ys.length
def edLast (out:List Ed):Ed:=out.getD (out.length - 1) ⟨0,0,[]⟩
def opened (at_:Int) (op:Bool) (out:List Ed):List Ed:=if op=true then out else out++[⟨at_,0,[]⟩]
def addDel (out:List Ed):List Ed:=out.set (out.length - 1) ⟨(edLast out).f0,(edLast out).f1+1,(edLast out).f2⟩
def addIns (s:ByteArray) (out:List Ed):List Ed:=out.set (out.length - 1) ⟨(edLast out).f0,(edLast out).f1,(edLast out).f2++[s]⟩
def edits (at_:Int) (op:Bool) (out:List Ed):List Step→List Ed
 | []=>out
 | .keep :: r=>edits (at_+1) false out r
 | .del :: r=>edits (at_+1) true (addDel (opened at_ op out)) r
 | .ins s :: r=>edits at_ true (addIns s (opened at_ op out)) r
def common:List ByteArray→List ByteArray→Nat
 | x :: xs,y :: ys=>if x=y then common xs ys+1 else 0
 | _,_=>0
def midEdits (at_:Int) (x y:List ByteArray):List Ed :=
 if x=[]∧y=[] then [] else if x=[]∨y=[]∨65536<x.length * y.length then [⟨at_,(x.length:Int),y⟩] else edits at_ false [] (steps x y)
def frontOf (a b:List ByteArray):Nat:=common a b
def endOf (a b:List ByteArray):Nat:=common (a.drop (frontOf a b)).reverse (b.drop (frontOf a b)).reverse
def midOf (a b:List ByteArray):List ByteArray:=(a.drop (frontOf a b)).take ((a.drop (frontOf a b)).length - endOf a b)
def between (a b:List ByteArray):List Ed :=
 midEdits (frontOf a b:Int) (midOf a b) ((b.drop (frontOf a b)).take ((b.drop (frontOf a b)).length - endOf a b))
theorem opened_ne (at_:Int) (op:Bool) (out:List Ed) (h:op=true→out≠[]):opened at_ op out≠[]:=by
 unfold opened;split
 ·exact h ‹_›
 ·simp
theorem addDel_ne (out:List Ed) (h:out≠[]):addDel out≠[]:=by
 unfold addDel;intro e;rw [List.set_eq_nil_iff] at e;exact h e
theorem addIns_ne (s:ByteArray) (out:List Ed) (h:out≠[]):addIns s out≠[]:=by
 unfold addIns;intro e;rw [List.set_eq_nil_iff] at e;exact h e
end Go.Proofs.YtamojbfmphainaaDoor.Pr
-- shrunk
/-
A list of edits of the call's own, of which the last one is changed: what is known of memory then.
-/
namespace Go.Proofs.YtamojbfmphainaaDoor.Pr
open Go.RowKit Go.Proofs.YtamojbfmphainaaDoorW.PrintWords Go.Proofs.YtamojbfmphainaaDoorW.PrintLast Go.Proofs.YtamojbfmphainaaDoorW.PrintMore
theorem edLast_eq (out:List Ed) (j:Int) (hj:j.toNat=out.length - 1):out.getD j.toNat z72=edLast out:=by rw [hj];rfl
theorem own_del {W:World} {base g cap:Nat} {out:List Ed} {j:Int} (hS:Kd.S k72 72 W base (fun _=>True) (.slice (some ⟨g,0,none⟩) out.length cap) out) (hne:out≠[]) (h0:0≤j) (hj:j.toNat=out.length - 1) :
  W.cell? ⟨g,j.toNat * 3+1,none⟩=some (.int .i64 (edLast out).f1)∧W.frozen? ⟨g,j.toNat * 3+1,none⟩=false ∧
   Kd.S k72 72 (W.setCell ⟨g,j.toNat * 3+1,none⟩ (.int .i64 ((edLast out).f1+1))) base (fun _=>True) (.slice (some ⟨g,0,none⟩) out.length cap) (addDel out) ∧
   W.grownBy (W.setCell ⟨g,j.toNat * 3+1,none⟩ (.int .i64 ((edLast out).f1+1))) (some g):=by
 have hl:0<out.length:=List.length_pos_iff.2 hne
 have h1:j<(out.length:Int):=by omega
 have hS':Kd.S k72 72 W base (fun k=>True∧¬ False) (.slice (some ⟨g,0,none⟩) out.length cap) out:=Kd.S_mono hS (fun _ _=>⟨trivial,id⟩)
 obtain ⟨oki,c,hcl,hM,hcc,hfr,hoki,hH⟩:=Kd.S_elem hS' z72 j h0 h1
 rw [edLast_eq out j hj] at hM
 obtain ⟨vi,rfl,hvi⟩:=k72_openM hM
 have hc1:=hcc 1 _ rfl
 obtain ⟨h2,h3⟩:=Kd.S_seg (okg:=fun _=>False) hH h0 h1 (seg:=[.int .i64 ((edLast out).f1+1)]) (j:=1) (show 1+1≤3 by decide) (x':=⟨(edLast out).f0,(edLast out).f1+1,(edLast out).f2⟩)
  (k72_mkM W base oki ⟨(edLast out).f0,(edLast out).f1+1,(edLast out).f2⟩ hvi) (fun k hk=>.inl hk) (fun k hk=>hk.elim)
 exact ⟨hc1,hfr 1,by unfold addDel;rw [← hj];exact Kd.S_mono h2 (fun _ _=>trivial),h3⟩
theorem own_ins {W:World} {base g cap:Nat} {out:List Ed} {j:Int} (s:ByteArray) (hS:Kd.S k72 72 W base (fun _=>True) (.slice (some ⟨g,0,none⟩) out.length cap) out) (hne:out≠[]) (h0:0≤j) (hj:j.toNat=out.length - 1) :
  ∃ (vi:Value) (Ai:Option Addr) (ci:Nat) (oki:Nat→Prop),vi=.slice Ai (edLast out).f2.length ci∧W.cell? ⟨g,j.toNat * 3+2,none⟩=some vi∧Kd.R Kd.string 9 W base oki vi (edLast out).f2∧(∀ k,W.heap.size≤k→oki k)∧(∀ k,vi.ownBlock=some k→k≠g) ∧
   ∀ (W2 w1:World) (v1:Value),Below W.heap.size W W2→W2.grownBy w1 vi.ownBlock→Kd.R Kd.string 9 w1 base oki v1 ((edLast out).f2++[s]) →
    w1.cell? ⟨g,j.toNat * 3+2,none⟩=some vi∧w1.frozen? ⟨g,j.toNat * 3+2,none⟩=false ∧
    Kd.S k72 72 (w1.setCell ⟨g,j.toNat * 3+2,none⟩ v1) base (fun _=>True) (.slice (some ⟨g,0,none⟩) out.length cap) (addIns s out)∧w1.grownBy (w1.setCell ⟨g,j.toNat * 3+2,none⟩ v1) (some g)∧(∃ cells,w1.heap[g]?=some (.cells cells 72 (0,0))):=by
 have hl:0<out.length:=List.length_pos_iff.2 hne
 have h1:j<(out.length:Int):=by omega
 obtain ⟨oki,c,hcl,hM,hcc,hfr,hoki,hH⟩:=Kd.S_elem hS z72 j h0 h1
 rw [edLast_eq out j hj] at hM
 obtain ⟨vi,rfl,hvi⟩:=k72_openM hM
 have hc2:=hcc 2 _ rfl
 obtain ⟨g',cap',e',_,hlt,cells0,hg0⟩:=Kd.S_form hS hl
 have hgg:g'=g:=by injection e' with e' _ _;injection e' with e';injection e' with e';exact e'.symm
 subst hgg
 have hH2:=Kd.H_widen hH
 have hvi2:Kd.R Kd.string 9 W base (fun k=>oki k∨True∧W.heap.size≤k) vi (edLast out).f2:=Kd.R_mono hvi (fun k hk=>.inl hk)
 obtain ⟨Ai,ci,evi⟩:=Kd.R_slice hvi
 refine ⟨vi,Ai,ci,fun k=>oki k∨True∧W.heap.size≤k,evi,hc2,hvi2,fun k hk=>.inr ⟨trivial,hk⟩,fun k hk=>(hoki k (hvi.1 k hk)).2,fun W2 w1 v1 hb hg hR=>?_⟩
 have hne2:∀ k,vi.ownBlock=some k→k≠g':=fun k hk=>(hoki k (hvi.1 k hk)).2
 have hgb:¬ vi.ownBlock=some g':=fun h=>hne2 _ h rfl
 have hlt2:g'<W2.heap.size:=Nat.lt_of_lt_of_le hlt hb.size
 have hcell:w1.heap[g']?=W.heap[g']?:=(hg.block g' hlt2 (fun e=>hgb e.symm)).trans (hb.block g' hlt)
 have hH3:=Kd.H_grown (Kd.H_below hH2 hb) hg (fun k hk=>.inl (hvi.1 k hk))
 obtain ⟨h4,h5⟩:=Kd.H_seg hH3 h0 h1 (seg:=[v1]) (j:=2) (show 2+1≤3 by decide) (by intro q hq;simp at hq;subst hq;exact (Kd.R_val hR).2)
 have hokne:∀ k,(oki k∨True∧W.heap.size≤k)→k≠g':=by
  rintro k (hk|hk)
  ·exact (hoki k hk).2
  ·omega
 refine ⟨by rw [← hc2];exact World.cell?_of_block hcell,by rw [← hfr 2];exact World.frozen?_of_block hcell,?_,h5,⟨cells0,hcell.trans hg0⟩⟩
 unfold addIns
 rw [← hj]
 refine Kd.H_back h4 (okp:=fun k=>oki k∨True∧W.heap.size≤k) ?_ (fun _ hk=>hk)
 exact k72_mkM _ base _ ⟨(edLast out).f0,(edLast out).f1,(edLast out).f2++[s]⟩ (Kd.R_far hR (p:=⟨g',j.toNat * 3+2,none⟩) hokne v1)
end Go.Proofs.YtamojbfmphainaaDoor.Pr
-- shrunk
