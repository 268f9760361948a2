/-
Several plain texts in one.
-/
import Derived.Test.YtoaijganmfijmaaK0
import Derived.Test.YtoaijganmfijmaaK2
set_option linter.unusedVariables false
set_option linter.unusedSimpArgs false
-- written by a program of this session's (a turned copy of the kit's printer); Lean checks it
namespace Go.Proofs.Ytoaijganmfijmaa.Pr
open Go.RowKit Go.Proofs.YtoaijganmfijmaaW.PrintWords Go.Proofs.YtoaijganmfijmaaW.PrintLast Go.Proofs.YtoaijganmfijmaaW.PrintMore
attribute [local go_sem] max2_int min2_int max_two min_two max_three min_three max_four min_four   -- for this text's walks alone

def r05_Many.l0:Nat→List ByteArray→Int→Int→Int→Option (Int)
 | 0,_,_,_,_=>none
 | k+1,x0,x1,x5,x6=>if x6<(x0.length:Int) then (if 0≤x6 then (if ((rdOf ByteArray.empty x0 x6).size:Int) > 0 then (if 0<((rdOf ByteArray.empty x0 x6).size:Int) then (if (bt (rdOf ByteArray.empty x0 x6) 0)=32 then (r05_Many.l0 k x0 x1 (wrap64 (x5+1)) (wrap64 (x6+1))) else (if (bt (rdOf ByteArray.empty x0 x6) 0)=x1 then (r05_Many.l0 k x0 x1 (wrap64 (x5+1)) (wrap64 (x6+1))) else (r05_Many.l0 k x0 x1 x5 (wrap64 (x6+1))))) else (none)) else (r05_Many.l0 k x0 x1 x5 (wrap64 (x6+1)))) else (none)) else (some x5)
def r05_Many.f (k:Nat) (l0:List ByteArray) (a1:Int):Option (Int):=r05_Many.l0 k l0 a1 0 0
theorem r05_Many.mono_l:∀ k,(∀ y0 y1 y2 y3,LeO (r05_Many.l0 k y0 y1 y2 y3) (r05_Many.l0 (k+1) y0 y1 y2 y3))
 | 0=>fun _ _ _ _ r h=>by simp [r05_Many.l0] at h
 | k+1=>by
  have ih0:=r05_Many.mono_l k
  ·intro y0 y1 y2 y3
   unfold r05_Many.l0
   repeat' first
   | (with_reducible exact ih0 _ _ _ _)
   | (with_reducible exact LeO.refl _)
   | (with_reducible exact LeO.none _)
   | (with_reducible refine LeO.ite ?_ ?_)
   | (with_reducible refine LeO.bind ?_ (fun _=>?_))
   | exact ih0 _ _ _ _
   | exact LeO.none _
   | refine LeO.ite ?_ ?_
   | refine LeO.bind ?_ (fun _=>?_)
theorem r05_Many.mono:∀ a0 a1 k,LeO (r05_Many.f k a0 a1) (r05_Many.f (k+1) a0 a1):=by
 intro a0 a1 k
 have ih0:=r05_Many.mono_l k
 unfold r05_Many.f
 repeat' first
   | (with_reducible exact ih0 _ _ _ _)
   | (with_reducible exact LeO.refl _)
   | (with_reducible exact LeO.none _)
   | (with_reducible refine LeO.ite ?_ ?_)
   | (with_reducible refine LeO.bind ?_ (fun _=>?_))
   | exact ih0 _ _ _ _
   | exact LeO.none _
   | refine LeO.ite ?_ ?_
   | refine LeO.bind ?_ (fun _=>?_)
set_option maxHeartbeats 8000000 in
set_option maxRecDepth 100000 in
theorem r05_Many.calls (k:Nat) (A0:Option Addr) (c0:Nat) (l0:List ByteArray) (a1:Int) (r:Int) (w:World) (hr0:Kd.C Kd.string w A0 l0.length l0) (hc0:l0.length≤c0) (h:r05_Many.f k l0 a1=some r) :
  Calls Try.prog 32 #[.slice A0 l0.length c0,.int .u8 a1] w fun e w'=>e=.returned (.int .i64 r)∧Drawn0 w w':=by
 have HR0:=Aside0.mk hr0
 have HC0:=Aside0.mk hc0
 clear hr0 hc0
 have H:(r05_Many.l0 k l0 a1 0 0)=some r:=h
 clear h
 have H':=Aside0.mk H
 clear H
 go_enter Try.func32,Try.ntmps32
 go_wp2
 go_loopg [5,6] k (fun kq v5 v6 w'=>∃ (x5_1:Int) (x6_1:Int),v5=.int .i64 x5_1∧v6=.int .i64 x6_1∧Aside0 (r05_Many.l0 kq l0 a1 x5_1 x6_1=some r)∧Aside0 (kq≤k)∧Drawn0 w w')
 case atStart=>exact ⟨(0),(0),rx,rx,H',⟨Nat.le_refl _⟩,by repeat (first|exact Drawn0.refl _|apply Drawn0.step)⟩
 case round =>
  clear H'
  try clear p2
  obtain ⟨x5_1,x6_1,rfl,rfl,HA,HK1,⟨m1,rfl⟩⟩:=hrel
  cases gk with
  | zero=>exact absurd HA.out (by simp [r05_Many.l0])
  | succ k1 =>
   have H:=HA.out
   clear HA
   simp only [r05_Many.l0] at H
   by_cases c3:x6_1<(l0.length:Int)
   ·rw [if_pos c3] at H
    have c3b0:decide (x6_1<(l0.length:Int))=true:=decide_eq_true c3
    clear c3
    by_cases c4:0≤x6_1
    ·rw [if_pos c4] at H
     have c4b0:decide (0≤x6_1)=true:=decide_eq_true c4
     clear c4
     by_cases c5:((rdOf ByteArray.empty l0 x6_1).size:Int) > 0
     ·rw [if_pos c5] at H
      have c5b0:decide (0<((rdOf ByteArray.empty l0 x6_1).size:Int))=true:=decide_eq_true c5
      have c5b1:decide (0<(rdOf ByteArray.empty l0 x6_1).size)=true:=decide_eq_true (by omega)
      clear c5
      by_cases c6:0<((rdOf ByteArray.empty l0 x6_1).size:Int)
      ·rw [if_pos c6] at H
       have c6b0:decide (0<((rdOf ByteArray.empty l0 x6_1).size:Int))=true:=decide_eq_true c6
       have c6b1:decide (0<(rdOf ByteArray.empty l0 x6_1).size)=true:=decide_eq_true (by omega)
       clear c6
       by_cases c8:(bt (rdOf ByteArray.empty l0 x6_1) 0)=32
       ·rw [if_pos c8] at H
        have c8b0:((bt (rdOf ByteArray.empty l0 x6_1) 0) == 32)=true:=beq_iff_eq.mpr c8
        have c8b1:((bt (rdOf ByteArray.empty l0 x6_1) 0) != 32)=false:=bne_eq_false_iff_eq.mpr c8
        clear c8
        have H':=Aside0.mk H
        clear H
        have p287:0≤(x6_1:Int):=of_decide_eq_true asm
        have q287:x6_1<(l0.length:Int):=of_decide_eq_true asm
        obtain ⟨ad287,e287,hx287_0⟩:=Kd.at_string HR0.out x6_1 p287 q287
        cases e287
        replace p287:=eq_true p287
        replace q287:=eq_true q287
        have p288:0≤(x6_1:Int):=of_decide_eq_true asm
        have q288:x6_1<(l0.length:Int):=of_decide_eq_true asm
        obtain ⟨ad288,e288,hx288_0⟩:=Kd.at_string HR0.out x6_1 p288 q288
        obtain rfl:ad287=ad288:=(by injection e288)
        replace p288:=eq_true p288
        replace q288:=eq_true q288
        have p7:0≤(0:Int):=(by omega)
        have q7:0<(rdOf ByteArray.empty l0 x6_1).size:=(by have:(0:Int)<((rdOf ByteArray.empty l0 x6_1).size:Int):=of_decide_eq_true asm;omega)
        have hx7:∀ h:0<(rdOf ByteArray.empty l0 x6_1).size,(((rdOf ByteArray.empty l0 x6_1)[0]'h).toNat:Int)=bt (rdOf ByteArray.empty l0 x6_1) 0:=bt_at (rdOf ByteArray.empty l0 x6_1) 0
        clear p7
        have qi7:(0<((rdOf ByteArray.empty l0 x6_1).size:Int))=True:=eq_true (of_decide_eq_true asm)
        replace q7:=eq_true q7
        go_wp2
        go_roundg k1
        case measure=>have:=HK1.out;omega
        case rel=>exact ⟨(wrap64 (x5_1+1)),(wrap64 (x6_1+1)),rx,rx,H',⟨by have:=HK1.out;omega⟩,by repeat (first|exact Drawn0.refl _|apply Drawn0.step)⟩
       ·rw [if_neg c8] at H
        have c8b0:((bt (rdOf ByteArray.empty l0 x6_1) 0) == 32)=false:=beq_eq_false_iff_ne.mpr c8
        have c8b1:((bt (rdOf ByteArray.empty l0 x6_1) 0) != 32)=true:=bne_iff_ne.mpr c8
        by_cases c10:(bt (rdOf ByteArray.empty l0 x6_1) 0)=a1
        ·rw [if_pos c10] at H
         have c10b0:((bt (rdOf ByteArray.empty l0 x6_1) 0) == a1)=true:=beq_iff_eq.mpr c10
         have c10b1:((bt (rdOf ByteArray.empty l0 x6_1) 0) != a1)=false:=bne_eq_false_iff_eq.mpr c10
         clear c10
         have H':=Aside0.mk H
         clear H
         have p287:0≤(x6_1:Int):=of_decide_eq_true asm
         have q287:x6_1<(l0.length:Int):=of_decide_eq_true asm
         obtain ⟨ad287,e287,hx287_0⟩:=Kd.at_string HR0.out x6_1 p287 q287
         cases e287
         replace p287:=eq_true p287
         replace q287:=eq_true q287
         have p288:0≤(x6_1:Int):=of_decide_eq_true asm
         have q288:x6_1<(l0.length:Int):=of_decide_eq_true asm
         obtain ⟨ad288,e288,hx288_0⟩:=Kd.at_string HR0.out x6_1 p288 q288
         obtain rfl:ad287=ad288:=(by injection e288)
         replace p288:=eq_true p288
         replace q288:=eq_true q288
         have p7:0≤(0:Int):=(by omega)
         have q7:0<(rdOf ByteArray.empty l0 x6_1).size:=(by have:(0:Int)<((rdOf ByteArray.empty l0 x6_1).size:Int):=of_decide_eq_true asm;omega)
         have hx7:∀ h:0<(rdOf ByteArray.empty l0 x6_1).size,(((rdOf ByteArray.empty l0 x6_1)[0]'h).toNat:Int)=bt (rdOf ByteArray.empty l0 x6_1) 0:=bt_at (rdOf ByteArray.empty l0 x6_1) 0
         clear p7
         have qi7:(0<((rdOf ByteArray.empty l0 x6_1).size:Int))=True:=eq_true (of_decide_eq_true asm)
         replace q7:=eq_true q7
         have p289:0≤(x6_1:Int):=of_decide_eq_true asm
         have q289:x6_1<(l0.length:Int):=of_decide_eq_true asm
         obtain ⟨ad289,e289,hx289_0⟩:=Kd.at_string HR0.out x6_1 p289 q289
         obtain rfl:ad287=ad289:=(by injection e289)
         replace p289:=eq_true p289
         replace q289:=eq_true q289
         have p9:0≤(0:Int):=(by omega)
         have q9:0<(rdOf ByteArray.empty l0 x6_1).size:=(by have:(0:Int)<((rdOf ByteArray.empty l0 x6_1).size:Int):=of_decide_eq_true asm;omega)
         have hx9:∀ h:0<(rdOf ByteArray.empty l0 x6_1).size,(((rdOf ByteArray.empty l0 x6_1)[0]'h).toNat:Int)=bt (rdOf ByteArray.empty l0 x6_1) 0:=bt_at (rdOf ByteArray.empty l0 x6_1) 0
         clear p9
         have qi9:(0<((rdOf ByteArray.empty l0 x6_1).size:Int))=True:=eq_true (of_decide_eq_true asm)
         replace q9:=eq_true q9
         go_wp2
         go_roundg k1
         case measure=>have:=HK1.out;omega
         case rel=>exact ⟨(wrap64 (x5_1+1)),(wrap64 (x6_1+1)),rx,rx,H',⟨by have:=HK1.out;omega⟩,by repeat (first|exact Drawn0.refl _|apply Drawn0.step)⟩
        ·rw [if_neg c10] at H
         have c10b0:((bt (rdOf ByteArray.empty l0 x6_1) 0) == a1)=false:=beq_eq_false_iff_ne.mpr c10
         have c10b1:((bt (rdOf ByteArray.empty l0 x6_1) 0) != a1)=true:=bne_iff_ne.mpr c10
         have H':=Aside0.mk H
         clear H
         have p287:0≤(x6_1:Int):=of_decide_eq_true asm
         have q287:x6_1<(l0.length:Int):=of_decide_eq_true asm
         obtain ⟨ad287,e287,hx287_0⟩:=Kd.at_string HR0.out x6_1 p287 q287
         cases e287
         replace p287:=eq_true p287
         replace q287:=eq_true q287
         have p288:0≤(x6_1:Int):=of_decide_eq_true asm
         have q288:x6_1<(l0.length:Int):=of_decide_eq_true asm
         obtain ⟨ad288,e288,hx288_0⟩:=Kd.at_string HR0.out x6_1 p288 q288
         obtain rfl:ad287=ad288:=(by injection e288)
         replace p288:=eq_true p288
         replace q288:=eq_true q288
         have p7:0≤(0:Int):=(by omega)
         have q7:0<(rdOf ByteArray.empty l0 x6_1).size:=(by have:(0:Int)<((rdOf ByteArray.empty l0 x6_1).size:Int):=of_decide_eq_true asm;omega)
         have hx7:∀ h:0<(rdOf ByteArray.empty l0 x6_1).size,(((rdOf ByteArray.empty l0 x6_1)[0]'h).toNat:Int)=bt (rdOf ByteArray.empty l0 x6_1) 0:=bt_at (rdOf ByteArray.empty l0 x6_1) 0
         clear p7
         have qi7:(0<((rdOf ByteArray.empty l0 x6_1).size:Int))=True:=eq_true (of_decide_eq_true asm)
         replace q7:=eq_true q7
         have p289:0≤(x6_1:Int):=of_decide_eq_true asm
         have q289:x6_1<(l0.length:Int):=of_decide_eq_true asm
         obtain ⟨ad289,e289,hx289_0⟩:=Kd.at_string HR0.out x6_1 p289 q289
         obtain rfl:ad287=ad289:=(by injection e289)
         replace p289:=eq_true p289
         replace q289:=eq_true q289
         have p9:0≤(0:Int):=(by omega)
         have q9:0<(rdOf ByteArray.empty l0 x6_1).size:=(by have:(0:Int)<((rdOf ByteArray.empty l0 x6_1).size:Int):=of_decide_eq_true asm;omega)
         have hx9:∀ h:0<(rdOf ByteArray.empty l0 x6_1).size,(((rdOf ByteArray.empty l0 x6_1)[0]'h).toNat:Int)=bt (rdOf ByteArray.empty l0 x6_1) 0:=bt_at (rdOf ByteArray.empty l0 x6_1) 0
         clear p9
         have qi9:(0<((rdOf ByteArray.empty l0 x6_1).size:Int))=True:=eq_true (of_decide_eq_true asm)
         replace q9:=eq_true q9
         go_wp2
         go_roundg k1
         case measure=>have:=HK1.out;omega
         case rel=>exact ⟨(x5_1),(wrap64 (x6_1+1)),rx,rx,H',⟨by have:=HK1.out;omega⟩,by repeat (first|exact Drawn0.refl _|apply Drawn0.step)⟩
      ·rw [if_neg c6] at H
       exact absurd H (by simp)
     ·rw [if_neg c5] at H
      have c5b0:decide (0<((rdOf ByteArray.empty l0 x6_1).size:Int))=false:=decide_eq_false c5
      have c5b1:decide (0<(rdOf ByteArray.empty l0 x6_1).size)=false:=decide_eq_false (by omega)
      clear c5
      have H':=Aside0.mk H
      clear H
      have p287:0≤(x6_1:Int):=of_decide_eq_true asm
      have q287:x6_1<(l0.length:Int):=of_decide_eq_true asm
      obtain ⟨ad287,e287,hx287_0⟩:=Kd.at_string HR0.out x6_1 p287 q287
      cases e287
      replace p287:=eq_true p287
      replace q287:=eq_true q287
      go_wp2
      go_roundg k1
      case measure=>have:=HK1.out;omega
      case rel=>exact ⟨(x5_1),(wrap64 (x6_1+1)),rx,rx,H',⟨by have:=HK1.out;omega⟩,by repeat (first|exact Drawn0.refl _|apply Drawn0.step)⟩
    ·rw [if_neg c4] at H
     exact absurd H (by simp)
   ·rw [if_neg c3] at H
    have c3b0:decide (x6_1<(l0.length:Int))=false:=decide_eq_false c3
    clear c3
    obtain rfl:=Option.some.inj H
    go_wp2
    go_ret
    exact ⟨by first|rfl|(simp;done)|(simp [*];done),by repeat (first|exact Drawn0.refl _|apply Drawn0.step)⟩

end Go.Proofs.Ytoaijganmfijmaa.Pr
-- shrunk
/-
What the document's Many of a hunk computes, as plain Lean.
-/
namespace Go.Proofs.Ytoaijganmfijmaa.Pr
open Go.RowKit Go.Proofs.YtoaijganmfijmaaW.PrintWords Go.Proofs.YtoaijganmfijmaaW.PrintLast Go.Proofs.YtoaijganmfijmaaW.PrintMore
theorem Many_l0 (l:List ByteArray) (z:Int) (hn:l.length≤1099511627776):∀ (d i:Nat) (n:Int),l.length - i=d→i≤l.length→0≤n→n≤i→Ev (fun k=>r05_Many.l0 k l z n (i:Int)) (n+manyL z (l.drop i)):=by
 intro d
 induction d with
 | zero =>
  intro i n hd hi h1 h2
  refine Ev.step (fun _=>r05_Many.l0.eq_2 ..) ?_
  simp only [if_neg (show ¬ (i:Int)<(l.length:Int) by omega)]
  rw [List.drop_of_length_le (by omega)]
  simp only [manyL,Int.natCast_zero,Int.add_zero]
  exact Ev.now _
 | succ d ih =>
  intro i n hd hi h1 h2
  refine Ev.step (fun _=>r05_Many.l0.eq_2 ..) ?_
  have h0:i<l.length:=by omega
  rw [List.drop_eq_getElem_cons h0]
  simp only [if_pos (show (i:Int)<(l.length:Int) by omega),if_pos (show 0≤(i:Int) by omega),rdS_at h0,w_succ h0 (show l.length≤4611686018427387904 by omega),w_in (show -9223372036854775808≤n+1 by omega) (show n+1≤9223372036854775807 by omega),manyL]
  have hx:=ih (i+1) (n+1) (by omega) (by omega) (by omega) (by omega)
  have hy:=ih (i+1) n (by omega) (by omega) (by omega) (by omega)
  by_cases c1:(l[i].size:Int) > 0
  rotate_left
  ·simp only [if_neg c1]
   rw [if_neg (by rintro ⟨h,_⟩;omega),Nat.zero_add]
   exact hy
  simp only [if_pos c1,if_pos (show (0:Int)<(l[i].size:Int) by omega)]
  by_cases c2:bt l[i] 0=32
  ·simp only [if_pos c2]
   rw [if_pos ⟨by omega,Or.inl c2⟩]
   rw [show n+(((1+manyL z (l.drop (i+1)):Nat)):Int)=n+1+(manyL z (l.drop (i+1)):Int) by push_cast;omega]
   exact hx
  simp only [if_neg c2]
  by_cases c3:bt l[i] 0=z
  ·simp only [if_pos c3]
   rw [if_pos ⟨by omega,Or.inr c3⟩]
   rw [show n+(((1+manyL z (l.drop (i+1)):Nat)):Int)=n+1+(manyL z (l.drop (i+1)):Int) by push_cast;omega]
   exact hx
  simp only [if_neg c3]
  rw [if_neg (by rintro ⟨_,h|h⟩;exact c2 h;exact c3 h),Nat.zero_add]
  exact hy
theorem Many_ev (l:List ByteArray) (z:Int) (hn:l.length≤1099511627776):Ev (fun k=>r05_Many.f k l z) (manyL z l:Int):=by
 unfold r05_Many.f
 have h:=Many_l0 l z hn _ 0 0 rfl (by omega) (by omega) (by omega)
 simpa using h
end Go.Proofs.Ytoaijganmfijmaa.Pr
-- shrunk
-- written by a program of this session's (a turned copy of the kit's printer); Lean checks it
namespace Go.Proofs.Ytoaijganmfijmaa.Pr
open Go.RowKit Go.Proofs.YtoaijganmfijmaaW.PrintWords Go.Proofs.YtoaijganmfijmaaW.PrintLast Go.Proofs.YtoaijganmfijmaaW.PrintMore
attribute [local go_sem] max2_int min2_int max_two min_two max_three min_three max_four min_four   -- for this text's walks alone

mutual
def r05_Right.l0:Nat→Int→Int→Int→Int→Int→List ByteArray→Option (Bool)
 | 0,_,_,_,_,_,_=>none
 | k+1,x3,x291000,x291001,x291002,x291003,x291004=>if x3<(x291004.length:Int) then (if 0≤x3 then (if ((rdOf ByteArray.empty x291004 x3).size:Int)=0 then (some false) else (if 0<((rdOf ByteArray.empty x291004 x3).size:Int) then (if (bt (rdOf ByteArray.empty x291004 x3) 0)=32 then (r05_Right.j1 k x3 (rdOf ByteArray.empty x291004 x3) false x291000 x291001 x291002 x291003 x291004) else (if (bt (rdOf ByteArray.empty x291004 x3) 0)=43 then (r05_Right.j1 k x3 (rdOf ByteArray.empty x291004 x3) false x291000 x291001 x291002 x291003 x291004) else (r05_Right.j1 k x3 (rdOf ByteArray.empty x291004 x3) ((bt (rdOf ByteArray.empty x291004 x3) 0) != 45) x291000 x291001 x291002 x291003 x291004))) else (none))) else (none)) else (if x291000 ≥ 0 then (if x291002 ≥ 0 then ((r05_Many.f k x291004 45).bind fun t291=>(if x291001=t291 then ((r05_Many.f k x291004 43).bind fun t292=>(some (x291003 == t292))) else (some false))) else (some false)) else (some false))
def r05_Right.j1:Nat→Int→ByteArray→Bool→Int→Int→Int→Int→List ByteArray→Option (Bool)
 | 0,_,_,_,_,_,_,_,_=>none
 | k+1,x3,x4,x32,x291000,x291001,x291002,x291003,x291004=>if x32=true then (some false) else (if x3 > 0 then (if 0<(x4.size:Int) then (if (bt x4 0)=45 then (if 0≤(wrap64 (x3 - 1)) then (if (wrap64 (x3 - 1))<(x291004.length:Int) then (if 0<((rdOf ByteArray.empty x291004 (wrap64 (x3 - 1))).size:Int) then (if (bt (rdOf ByteArray.empty x291004 (wrap64 (x3 - 1))) 0)=43 then (some false) else (r05_Right.l0 k (wrap64 (x3+1)) x291000 x291001 x291002 x291003 x291004)) else (none)) else (none)) else (none)) else (r05_Right.l0 k (wrap64 (x3+1)) x291000 x291001 x291002 x291003 x291004)) else (none)) else (r05_Right.l0 k (wrap64 (x3+1)) x291000 x291001 x291002 x291003 x291004))
end
def r05_Right.f (k:Nat) (a0_0:Int) (a0_1:Int) (a0_2:Int) (a0_3:Int) (l0_4:List ByteArray):Option (Bool):=r05_Right.l0 k 0 a0_0 a0_1 a0_2 a0_3 l0_4
theorem r05_Right.mono_l:∀ k,(∀ y0 y1 y2 y3 y4 y5,LeO (r05_Right.l0 k y0 y1 y2 y3 y4 y5) (r05_Right.l0 (k+1) y0 y1 y2 y3 y4 y5))∧(∀ y0 y1 y2 y3 y4 y5 y6 y7,LeO (r05_Right.j1 k y0 y1 y2 y3 y4 y5 y6 y7) (r05_Right.j1 (k+1) y0 y1 y2 y3 y4 y5 y6 y7))
 | 0=>⟨fun _ _ _ _ _ _ r h=>by simp [r05_Right.l0] at h,fun _ _ _ _ _ _ _ _ r h=>by simp [r05_Right.j1] at h⟩
 | k+1=>by
  obtain ⟨ih0,ih1⟩:=r05_Right.mono_l k
  refine ⟨?_,?_⟩
  ·intro y0 y1 y2 y3 y4 y5
   unfold r05_Right.l0
   repeat' first
   | (with_reducible exact ih0 _ _ _ _ _ _)
   | (with_reducible exact ih1 _ _ _ _ _ _ _ _)
   | (with_reducible exact r05_Many.mono _ _ _)
   | (with_reducible exact LeO.refl _)
   | (with_reducible exact LeO.none _)
   | (with_reducible refine LeO.ite ?_ ?_)
   | (with_reducible refine LeO.bind ?_ (fun _=>?_))
   | exact ih0 _ _ _ _ _ _
   | exact ih1 _ _ _ _ _ _ _ _
   | exact r05_Many.mono _ _ _
   | exact LeO.none _
   | refine LeO.ite ?_ ?_
   | refine LeO.bind ?_ (fun _=>?_)
  ·intro y0 y1 y2 y3 y4 y5 y6 y7
   unfold r05_Right.j1
   repeat' first
   | (with_reducible exact ih0 _ _ _ _ _ _)
   | (with_reducible exact ih1 _ _ _ _ _ _ _ _)
   | (with_reducible exact r05_Many.mono _ _ _)
   | (with_reducible exact LeO.refl _)
   | (with_reducible exact LeO.none _)
   | (with_reducible refine LeO.ite ?_ ?_)
   | (with_reducible refine LeO.bind ?_ (fun _=>?_))
   | exact ih0 _ _ _ _ _ _
   | exact ih1 _ _ _ _ _ _ _ _
   | exact r05_Many.mono _ _ _
   | exact LeO.none _
   | refine LeO.ite ?_ ?_
   | refine LeO.bind ?_ (fun _=>?_)
theorem r05_Right.mono:∀ a0 a1 a2 a3 a4 k,LeO (r05_Right.f k a0 a1 a2 a3 a4) (r05_Right.f (k+1) a0 a1 a2 a3 a4):=by
 intro a0 a1 a2 a3 a4 k
 obtain ⟨ih0,ih1⟩:=r05_Right.mono_l k
 unfold r05_Right.f
 repeat' first
   | (with_reducible exact ih0 _ _ _ _ _ _)
   | (with_reducible exact ih1 _ _ _ _ _ _ _ _)
   | (with_reducible exact r05_Many.mono _ _ _)
   | (with_reducible exact LeO.refl _)
   | (with_reducible exact LeO.none _)
   | (with_reducible refine LeO.ite ?_ ?_)
   | (with_reducible refine LeO.bind ?_ (fun _=>?_))
   | exact ih0 _ _ _ _ _ _
   | exact ih1 _ _ _ _ _ _ _ _
   | exact r05_Many.mono _ _ _
   | exact LeO.none _
   | refine LeO.ite ?_ ?_
   | refine LeO.bind ?_ (fun _=>?_)
set_option maxHeartbeats 8000000 in
set_option maxRecDepth 100000 in
theorem r05_Right.calls (k:Nat) (a0_0:Int) (a0_1:Int) (a0_2:Int) (a0_3:Int) (A0_4:Option Addr) (c0_4:Nat) (l0_4:List ByteArray) (r:Bool) (w:World) (hr0_4:Kd.C Kd.string w A0_4 l0_4.length l0_4) (hc0_4:l0_4.length≤c0_4) (h:r05_Right.f k a0_0 a0_1 a0_2 a0_3 l0_4=some r) :
  Calls Try.prog 25 #[.agg #[.int .i64 a0_0,.int .i64 a0_1,.int .i64 a0_2,.int .i64 a0_3,.slice A0_4 l0_4.length c0_4]] w fun e w'=>e=.returned (.bool r)∧Below w.heap.size w w':=by
 have hu41:=Try.underlying41
 have HR0_4:=Aside0.mk hr0_4
 have HC0_4:=Aside0.mk hc0_4
 clear hr0_4 hc0_4
 have HB:=Aside0.mk (Below.refl w.heap.size w)
 have H:(r05_Right.l0 k 0 a0_0 a0_1 a0_2 a0_3 l0_4)=some r:=h
 clear h
 have H':=Aside0.mk H
 clear H
 go_enter Try.func25,Try.ntmps25
 go_wp2_with (((with_reducible refine gate_dst (N:=1) rfl ?_);refine box_event ?hg (N:=1) ?hd (cs:=#[.int .i64 a0_0,.int .i64 a0_1,.int .i64 a0_2,.int .i64 a0_3,.slice A0_4 l0_4.length c0_4]) (t:=41) ?hr ?_;(case hd=>rfl);(case hg=>rfl);(case hr=>first|(go_simp;done)|(go_simp;rfl));intro gb290 hg w2 hbox hb;have n0_:=Aside0.mk (below_step bel hb);have n1_:=Aside0.mk (hbox);have n2_:=Aside0.mk ((szl:w.heap.size≤gb290));have n3_:=Aside0.mk ((szl:w.heap.size≤gb290));clear HB;have HB:=n0_;have BK290:=n1_;have GW290:=n2_;have GE290:=n3_;clear n0_ n1_ n2_ n3_;clear hb hbox hg))
 go_loopg [3] k (fun kq v3 w'=>∃ (x3_1:Int),v3=.int .i64 x3_1∧Aside0 (r05_Right.l0 kq x3_1 a0_0 a0_1 a0_2 a0_3 l0_4=some r)∧Aside0 (kq≤k)∧Aside0 (w'.heap[gb290]?=some (.cells #[.int .i64 a0_0,.int .i64 a0_1,.int .i64 a0_2,.int .i64 a0_3,(.slice A0_4 l0_4.length c0_4)] 41 (0,0)))∧Aside0 (Below w.heap.size w w'))
 case atStart=>exact ⟨(0),rx,H',⟨Nat.le_refl _⟩,⟨by (with_reducible repeat (first|refine blk_drewN ?_ _|refine blk_drew ?_|refine blk_alloc ?_ _));exact BK290.out⟩,⟨by repeat (first|(with_reducible first|exact HB.out|apply below_alloc|apply pw_below_drewN|apply below_drew1|refine below_set ?_ GE290.out)|exact HB.out)⟩⟩
 case round =>
  clear H'
  try clear c2
  try clear p2
  obtain ⟨x3_1,rfl,HA,HK1,BK290,HB⟩:=hrel
  cases gk with
  | zero=>exact absurd HA.out (by simp [r05_Right.l0])
  | succ k1 =>
   have H:=HA.out
   clear HA
   simp only [r05_Right.l0] at H
   by_cases c3:x3_1<(l0_4.length:Int)
   ·rw [if_pos c3] at H
    have c3b0:decide (x3_1<(l0_4.length:Int))=true:=decide_eq_true c3
    clear c3
    by_cases c4:0≤x3_1
    ·rw [if_pos c4] at H
     have c4b0:decide (0≤x3_1)=true:=decide_eq_true c4
     clear c4
     by_cases c5:((rdOf ByteArray.empty l0_4 x3_1).size:Int)=0
     ·rw [if_pos c5] at H
      have c5b0:(((rdOf ByteArray.empty l0_4 x3_1).size:Int) == 0)=true:=beq_iff_eq.mpr c5
      have c5b1:(((rdOf ByteArray.empty l0_4 x3_1).size:Int) != 0)=false:=bne_eq_false_iff_eq.mpr c5
      clear c5
      obtain rfl:=Option.some.inj H
      have hcz6_0:wr.cell? ⟨gb290,0,none⟩=some (.int .i64 a0_0):=(blk_cell BK290.out 0).trans rfl
      have hcz6_1:wr.cell? ⟨gb290,1,none⟩=some (.int .i64 a0_1):=(blk_cell BK290.out 1).trans rfl
      have hcz6_2:wr.cell? ⟨gb290,2,none⟩=some (.int .i64 a0_2):=(blk_cell BK290.out 2).trans rfl
      have hcz6_3:wr.cell? ⟨gb290,3,none⟩=some (.int .i64 a0_3):=(blk_cell BK290.out 3).trans rfl
      have hcz6_4:wr.cell? ⟨gb290,4,none⟩=some (.slice A0_4 l0_4.length c0_4):=(blk_cell BK290.out 4).trans rfl
      have hfz6_0:=blk_frozen BK290.out 0
      have hfz6_1:=blk_frozen BK290.out 1
      have hfz6_2:=blk_frozen BK290.out 2
      have hfz6_3:=blk_frozen BK290.out 3
      have hfz6_4:=blk_frozen BK290.out 4
      have p293:0≤(x3_1:Int):=of_decide_eq_true asm
      have q293:x3_1<(l0_4.length:Int):=of_decide_eq_true asm
      obtain ⟨ad293,e293,hx293_0⟩:=Kd.at_string HR0_4.out x3_1 p293 q293
      cases e293
      replace hx293_0:=pw_cell_below HB.out hx293_0
      replace p293:=eq_true p293
      replace q293:=eq_true q293
      go_wp2
      go_ret
      exact ⟨by first|rfl|(simp [errW_none,errW_some]<;>rfl)|(simp [*,errW_none,errW_some]<;>rfl),bel⟩
     ·rw [if_neg c5] at H
      have c5b0:(((rdOf ByteArray.empty l0_4 x3_1).size:Int) == 0)=false:=beq_eq_false_iff_ne.mpr c5
      have c5b1:(((rdOf ByteArray.empty l0_4 x3_1).size:Int) != 0)=true:=bne_iff_ne.mpr c5
      have HC7:=Aside0.mk H
      clear H
      have hcz8_0:wr.cell? ⟨gb290,0,none⟩=some (.int .i64 a0_0):=(blk_cell BK290.out 0).trans rfl
      have hcz8_1:wr.cell? ⟨gb290,1,none⟩=some (.int .i64 a0_1):=(blk_cell BK290.out 1).trans rfl
      have hcz8_2:wr.cell? ⟨gb290,2,none⟩=some (.int .i64 a0_2):=(blk_cell BK290.out 2).trans rfl
      have hcz8_3:wr.cell? ⟨gb290,3,none⟩=some (.int .i64 a0_3):=(blk_cell BK290.out 3).trans rfl
      have hcz8_4:wr.cell? ⟨gb290,4,none⟩=some (.slice A0_4 l0_4.length c0_4):=(blk_cell BK290.out 4).trans rfl
      have hfz8_0:=blk_frozen BK290.out 0
      have hfz8_1:=blk_frozen BK290.out 1
      have hfz8_2:=blk_frozen BK290.out 2
      have hfz8_3:=blk_frozen BK290.out 3
      have hfz8_4:=blk_frozen BK290.out 4
      have p293:0≤(x3_1:Int):=of_decide_eq_true asm
      have q293:x3_1<(l0_4.length:Int):=of_decide_eq_true asm
      obtain ⟨ad293,e293,hx293_0⟩:=Kd.at_string HR0_4.out x3_1 p293 q293
      cases e293
      replace hx293_0:=pw_cell_below HB.out hx293_0
      replace p293:=eq_true p293
      replace q293:=eq_true q293
      go_upto_region 7 with (fail)
      go_cut [32] (fun v32 wc=>∃ (kq:Nat) (x32_6:Bool),v32=.bool x32_6∧Aside0 (r05_Right.j1 kq x3_1 (rdOf ByteArray.empty l0_4 x3_1) x32_6 a0_0 a0_1 a0_2 a0_3 l0_4=some r)∧Aside0 (kq≤k1)∧Aside0 (wc.heap[gb290]?=some (.cells #[.int .i64 a0_0,.int .i64 a0_1,.int .i64 a0_2,.int .i64 a0_3,(.slice (some ad293) l0_4.length c0_4)] 41 (0,0)))∧Aside0 (Below w.heap.size w wc))
      case first =>
       have H:=HC7.out
       clear HC7
       by_cases c9:0<((rdOf ByteArray.empty l0_4 x3_1).size:Int)
       ·rw [if_pos c9] at H
        have c9b0:decide (0<((rdOf ByteArray.empty l0_4 x3_1).size:Int))=true:=decide_eq_true c9
        have c9b1:decide (0<(rdOf ByteArray.empty l0_4 x3_1).size)=true:=decide_eq_true (by omega)
        clear c9
        (first|rw [c9b0]|(simp only [i64_w,i32_w];rw [c9b0])|skip)
        by_cases c11:(bt (rdOf ByteArray.empty l0_4 x3_1) 0)=32
        ·rw [if_pos c11] at H
         have c11b0:((bt (rdOf ByteArray.empty l0_4 x3_1) 0) == 32)=true:=beq_iff_eq.mpr c11
         have c11b1:((bt (rdOf ByteArray.empty l0_4 x3_1) 0) != 32)=false:=bne_eq_false_iff_eq.mpr c11
         clear c11
         have H':=Aside0.mk H
         clear H
         have p10:0≤(0:Int):=(by omega)
         have q10:0<(rdOf ByteArray.empty l0_4 x3_1).size:=(by have:(0:Int)<((rdOf ByteArray.empty l0_4 x3_1).size:Int):=of_decide_eq_true asm;omega)
         have hx10:∀ h:0<(rdOf ByteArray.empty l0_4 x3_1).size,(((rdOf ByteArray.empty l0_4 x3_1)[0]'h).toNat:Int)=bt (rdOf ByteArray.empty l0_4 x3_1) 0:=bt_at (rdOf ByteArray.empty l0_4 x3_1) 0
         clear p10
         have qi10:(0<((rdOf ByteArray.empty l0_4 x3_1).size:Int))=True:=eq_true (of_decide_eq_true asm)
         replace q10:=eq_true q10
         go_wp2
         go_meet
         case rel=>exact ⟨_,(false),rx,H',⟨by have:=HK1.out;first|omega|exact Nat.le_refl _⟩,⟨by (with_reducible repeat (first|refine blk_drewN ?_ _|refine blk_drew ?_|refine blk_alloc ?_ _));exact BK290.out⟩,⟨by repeat (first|(with_reducible first|exact HB.out|apply below_alloc|apply pw_below_drewN|apply below_drew1|refine below_set ?_ GE290.out)|exact HB.out)⟩⟩
        ·rw [if_neg c11] at H
         have c11b0:((bt (rdOf ByteArray.empty l0_4 x3_1) 0) == 32)=false:=beq_eq_false_iff_ne.mpr c11
         have c11b1:((bt (rdOf ByteArray.empty l0_4 x3_1) 0) != 32)=true:=bne_iff_ne.mpr c11
         by_cases c13:(bt (rdOf ByteArray.empty l0_4 x3_1) 0)=43
         ·rw [if_pos c13] at H
          have c13b0:((bt (rdOf ByteArray.empty l0_4 x3_1) 0) == 43)=true:=beq_iff_eq.mpr c13
          have c13b1:((bt (rdOf ByteArray.empty l0_4 x3_1) 0) != 43)=false:=bne_eq_false_iff_eq.mpr c13
          clear c13
          have H':=Aside0.mk H
          clear H
          have p10:0≤(0:Int):=(by omega)
          have q10:0<(rdOf ByteArray.empty l0_4 x3_1).size:=(by have:(0:Int)<((rdOf ByteArray.empty l0_4 x3_1).size:Int):=of_decide_eq_true asm;omega)
          have hx10:∀ h:0<(rdOf ByteArray.empty l0_4 x3_1).size,(((rdOf ByteArray.empty l0_4 x3_1)[0]'h).toNat:Int)=bt (rdOf ByteArray.empty l0_4 x3_1) 0:=bt_at (rdOf ByteArray.empty l0_4 x3_1) 0
          clear p10
          have qi10:(0<((rdOf ByteArray.empty l0_4 x3_1).size:Int))=True:=eq_true (of_decide_eq_true asm)
          replace q10:=eq_true q10
          have p12:0≤(0:Int):=(by omega)
          have q12:0<(rdOf ByteArray.empty l0_4 x3_1).size:=(by have:(0:Int)<((rdOf ByteArray.empty l0_4 x3_1).size:Int):=of_decide_eq_true asm;omega)
          have hx12:∀ h:0<(rdOf ByteArray.empty l0_4 x3_1).size,(((rdOf ByteArray.empty l0_4 x3_1)[0]'h).toNat:Int)=bt (rdOf ByteArray.empty l0_4 x3_1) 0:=bt_at (rdOf ByteArray.empty l0_4 x3_1) 0
          clear p12
          have qi12:(0<((rdOf ByteArray.empty l0_4 x3_1).size:Int))=True:=eq_true (of_decide_eq_true asm)
          replace q12:=eq_true q12
          go_wp2
          go_meet
          case rel=>exact ⟨_,(false),rx,H',⟨by have:=HK1.out;first|omega|exact Nat.le_refl _⟩,⟨by (with_reducible repeat (first|refine blk_drewN ?_ _|refine blk_drew ?_|refine blk_alloc ?_ _));exact BK290.out⟩,⟨by repeat (first|(with_reducible first|exact HB.out|apply below_alloc|apply pw_below_drewN|apply below_drew1|refine below_set ?_ GE290.out)|exact HB.out)⟩⟩
         ·rw [if_neg c13] at H
          have c13b0:((bt (rdOf ByteArray.empty l0_4 x3_1) 0) == 43)=false:=beq_eq_false_iff_ne.mpr c13
          have c13b1:((bt (rdOf ByteArray.empty l0_4 x3_1) 0) != 43)=true:=bne_iff_ne.mpr c13
          have H':=Aside0.mk H
          clear H
          have p10:0≤(0:Int):=(by omega)
          have q10:0<(rdOf ByteArray.empty l0_4 x3_1).size:=(by have:(0:Int)<((rdOf ByteArray.empty l0_4 x3_1).size:Int):=of_decide_eq_true asm;omega)
          have hx10:∀ h:0<(rdOf ByteArray.empty l0_4 x3_1).size,(((rdOf ByteArray.empty l0_4 x3_1)[0]'h).toNat:Int)=bt (rdOf ByteArray.empty l0_4 x3_1) 0:=bt_at (rdOf ByteArray.empty l0_4 x3_1) 0
          clear p10
          have qi10:(0<((rdOf ByteArray.empty l0_4 x3_1).size:Int))=True:=eq_true (of_decide_eq_true asm)
          replace q10:=eq_true q10
          have p12:0≤(0:Int):=(by omega)
          have q12:0<(rdOf ByteArray.empty l0_4 x3_1).size:=(by have:(0:Int)<((rdOf ByteArray.empty l0_4 x3_1).size:Int):=of_decide_eq_true asm;omega)
          have hx12:∀ h:0<(rdOf ByteArray.empty l0_4 x3_1).size,(((rdOf ByteArray.empty l0_4 x3_1)[0]'h).toNat:Int)=bt (rdOf ByteArray.empty l0_4 x3_1) 0:=bt_at (rdOf ByteArray.empty l0_4 x3_1) 0
          clear p12
          have qi12:(0<((rdOf ByteArray.empty l0_4 x3_1).size:Int))=True:=eq_true (of_decide_eq_true asm)
          replace q12:=eq_true q12
          have p14:0≤(0:Int):=(by omega)
          have q14:0<(rdOf ByteArray.empty l0_4 x3_1).size:=(by have:(0:Int)<((rdOf ByteArray.empty l0_4 x3_1).size:Int):=of_decide_eq_true asm;omega)
          have hx14:∀ h:0<(rdOf ByteArray.empty l0_4 x3_1).size,(((rdOf ByteArray.empty l0_4 x3_1)[0]'h).toNat:Int)=bt (rdOf ByteArray.empty l0_4 x3_1) 0:=bt_at (rdOf ByteArray.empty l0_4 x3_1) 0
          clear p14
          have qi14:(0<((rdOf ByteArray.empty l0_4 x3_1).size:Int))=True:=eq_true (of_decide_eq_true asm)
          replace q14:=eq_true q14
          go_wp2
          go_meet
          case rel=>exact ⟨_,(((bt (rdOf ByteArray.empty l0_4 x3_1) 0) != 45)),rx,H',⟨by have:=HK1.out;first|omega|exact Nat.le_refl _⟩,⟨by (with_reducible repeat (first|refine blk_drewN ?_ _|refine blk_drew ?_|refine blk_alloc ?_ _));exact BK290.out⟩,⟨by repeat (first|(with_reducible first|exact HB.out|apply below_alloc|apply pw_below_drewN|apply below_drew1|refine below_set ?_ GE290.out)|exact HB.out)⟩⟩
       ·rw [if_neg c9] at H
        exact absurd H (by simp)
      case rest =>
       clear HC7
       try clear c1
       try clear p1
       try clear q1
       try clear hx1
       try clear qi1
       try clear c2
       try clear p2
       try clear q2
       try clear hx2
       try clear c3
       try clear c3b0
       try clear c4
       try clear c4b0
       try clear c5
       try clear c5b0
       try clear c5b1
       try clear c9
       try clear c9b0
       try clear c9b1
       try clear p10
       try clear q10
       try clear hx10
       try clear qi10
       try clear c11
       try clear c11b0
       try clear c11b1
       try clear p12
       try clear q12
       try clear hx12
       try clear qi12
       try clear c13
       try clear c13b0
       try clear c13b1
       try clear p14
       try clear q14
       try clear hx14
       try clear qi14
       try clear hcz6_0
       try clear hcz6_1
       try clear hcz6_2
       try clear hcz6_3
       try clear hcz6_4
       try clear hcz8_0
       try clear hcz8_1
       try clear hcz8_2
       try clear hcz8_3
       try clear hcz8_4
       try clear hfz6_0
       try clear hfz6_1
       try clear hfz6_2
       try clear hfz6_3
       try clear hfz6_4
       try clear hfz8_0
       try clear hfz8_1
       try clear hfz8_2
       try clear hfz8_3
       try clear hfz8_4
       try clear hx293_0
       try clear p10
       try clear p12
       try clear p14
       try clear p2
       try clear p293
       try clear q10
       try clear q12
       try clear q14
       try clear q293
       obtain ⟨kq,x32_6,rfl,HA,HJ6,BK290,HB⟩:=hcut
       cases kq with
       | zero=>exact absurd HA.out (by simp [r05_Right.j1])
       | succ kj6 =>
        have H:=HA.out
        clear HA
        simp only [r05_Right.j1] at H
        by_cases c15:x32_6=true
        ·subst c15
         have H1:(some false)=some r:=by rw [if_pos rfl] at H;exact H
         clear H
         have H:=H1
         clear H1
         obtain rfl:=Option.some.inj H
         go_wp2
         go_ret
         exact ⟨by first|rfl|(simp [errW_none,errW_some]<;>rfl)|(simp [*,errW_none,errW_some]<;>rfl),bel⟩
        ·replace c15:=Bool.eq_false_iff.mpr c15
         subst c15
         have H1:(if x3_1 > 0 then (if 0<((rdOf ByteArray.empty l0_4 x3_1).size:Int) then (if (bt (rdOf ByteArray.empty l0_4 x3_1) 0)=45 then (if 0≤(wrap64 (x3_1 - 1)) then (if (wrap64 (x3_1 - 1))<(l0_4.length:Int) then (if 0<((rdOf ByteArray.empty l0_4 (wrap64 (x3_1 - 1))).size:Int) then (if (bt (rdOf ByteArray.empty l0_4 (wrap64 (x3_1 - 1))) 0)=43 then (some false) else (r05_Right.l0 kj6 (wrap64 (x3_1+1)) a0_0 a0_1 a0_2 a0_3 l0_4)) else (none)) else (none)) else (none)) else (r05_Right.l0 kj6 (wrap64 (x3_1+1)) a0_0 a0_1 a0_2 a0_3 l0_4)) else (none)) else (r05_Right.l0 kj6 (wrap64 (x3_1+1)) a0_0 a0_1 a0_2 a0_3 l0_4))=some r:=by rw [if_neg (show ¬ (false=true) by decide)] at H;exact H
         clear H
         have H:=H1
         clear H1
         by_cases c16:x3_1 > 0
         ·rw [if_pos c16] at H
          have c16b0:decide (0<x3_1)=true:=decide_eq_true c16
          clear c16
          by_cases c17:0<((rdOf ByteArray.empty l0_4 x3_1).size:Int)
          ·rw [if_pos c17] at H
           have c17b0:decide (0<((rdOf ByteArray.empty l0_4 x3_1).size:Int))=true:=decide_eq_true c17
           have c17b1:decide (0<(rdOf ByteArray.empty l0_4 x3_1).size)=true:=decide_eq_true (by omega)
           clear c17
           by_cases c19:(bt (rdOf ByteArray.empty l0_4 x3_1) 0)=45
           ·rw [if_pos c19] at H
            have c19b0:((bt (rdOf ByteArray.empty l0_4 x3_1) 0) == 45)=true:=beq_iff_eq.mpr c19
            have c19b1:((bt (rdOf ByteArray.empty l0_4 x3_1) 0) != 45)=false:=bne_eq_false_iff_eq.mpr c19
            clear c19
            obtain ⟨ji20,hji20⟩:∃ j_:Int,(wrap64 (x3_1 - 1))=j_:=⟨_,rfl⟩
            replace H:(if 0≤(ji20) then (if (ji20)<(l0_4.length:Int) then (if 0<((rdOf ByteArray.empty l0_4 (ji20)).size:Int) then (if (bt (rdOf ByteArray.empty l0_4 (ji20)) 0)=43 then (some false) else (r05_Right.l0 kj6 (wrap64 (x3_1+1)) a0_0 a0_1 a0_2 a0_3 l0_4)) else (none)) else (none)) else (none))=some r:=by first|(rw [hji20] at H;exact H)|(simp only [hji20] at H ⊢;exact H)
            have hji20w:(IntKind.i64.wrap (x3_1 - 1))=ji20:=(i64_w _).trans hji20
            by_cases c21:0≤(ji20)
            ·rw [if_pos c21] at H
             have c21b0:decide (0≤(ji20))=true:=decide_eq_true c21
             clear c21
             by_cases c22:(ji20)<(l0_4.length:Int)
             ·rw [if_pos c22] at H
              have c22b0:decide ((ji20)<(l0_4.length:Int))=true:=decide_eq_true c22
              clear c22
              by_cases c23:0<((rdOf ByteArray.empty l0_4 (ji20)).size:Int)
              ·rw [if_pos c23] at H
               have c23b0:decide (0<((rdOf ByteArray.empty l0_4 (ji20)).size:Int))=true:=decide_eq_true c23
               have c23b1:decide (0<(rdOf ByteArray.empty l0_4 (ji20)).size)=true:=decide_eq_true (by omega)
               clear c23
               by_cases c25:(bt (rdOf ByteArray.empty l0_4 (ji20)) 0)=43
               ·rw [if_pos c25] at H
                have c25b0:((bt (rdOf ByteArray.empty l0_4 (ji20)) 0) == 43)=true:=beq_iff_eq.mpr c25
                have c25b1:((bt (rdOf ByteArray.empty l0_4 (ji20)) 0) != 43)=false:=bne_eq_false_iff_eq.mpr c25
                clear c25
                obtain rfl:=Option.some.inj H
                have p18:0≤(0:Int):=(by omega)
                have q18:0<(rdOf ByteArray.empty l0_4 x3_1).size:=(by have:(0:Int)<((rdOf ByteArray.empty l0_4 x3_1).size:Int):=of_decide_eq_true asm;omega)
                have hx18:∀ h:0<(rdOf ByteArray.empty l0_4 x3_1).size,(((rdOf ByteArray.empty l0_4 x3_1)[0]'h).toNat:Int)=bt (rdOf ByteArray.empty l0_4 x3_1) 0:=bt_at (rdOf ByteArray.empty l0_4 x3_1) 0
                clear p18
                have qi18:(0<((rdOf ByteArray.empty l0_4 x3_1).size:Int))=True:=eq_true (of_decide_eq_true asm)
                replace q18:=eq_true q18
                have hcz26_0:wc.cell? ⟨gb290,0,none⟩=some (.int .i64 a0_0):=(blk_cell BK290.out 0).trans rfl
                have hcz26_1:wc.cell? ⟨gb290,1,none⟩=some (.int .i64 a0_1):=(blk_cell BK290.out 1).trans rfl
                have hcz26_2:wc.cell? ⟨gb290,2,none⟩=some (.int .i64 a0_2):=(blk_cell BK290.out 2).trans rfl
                have hcz26_3:wc.cell? ⟨gb290,3,none⟩=some (.int .i64 a0_3):=(blk_cell BK290.out 3).trans rfl
                have hcz26_4:wc.cell? ⟨gb290,4,none⟩=some (.slice (some ad293) l0_4.length c0_4):=(blk_cell BK290.out 4).trans rfl
                have hfz26_0:=blk_frozen BK290.out 0
                have hfz26_1:=blk_frozen BK290.out 1
                have hfz26_2:=blk_frozen BK290.out 2
                have hfz26_3:=blk_frozen BK290.out 3
                have hfz26_4:=blk_frozen BK290.out 4
                have p294:0≤((ji20):Int):=of_decide_eq_true asm
                have q294:(ji20)<(l0_4.length:Int):=of_decide_eq_true asm
                obtain ⟨ad294,e294,hx294_0⟩:=Kd.at_string HR0_4.out (ji20) p294 q294
                obtain rfl:ad293=ad294:=(by injection e294)
                replace hx294_0:=pw_cell_below HB.out hx294_0
                replace p294:=eq_true p294
                replace q294:=eq_true q294
                have p24:0≤(0:Int):=(by omega)
                have q24:0<(rdOf ByteArray.empty l0_4 (ji20)).size:=(by have:(0:Int)<((rdOf ByteArray.empty l0_4 (ji20)).size:Int):=of_decide_eq_true asm;omega)
                have hx24:∀ h:0<(rdOf ByteArray.empty l0_4 (ji20)).size,(((rdOf ByteArray.empty l0_4 (ji20))[0]'h).toNat:Int)=bt (rdOf ByteArray.empty l0_4 (ji20)) 0:=bt_at (rdOf ByteArray.empty l0_4 (ji20)) 0
                clear p24
                have qi24:(0<((rdOf ByteArray.empty l0_4 (ji20)).size:Int))=True:=eq_true (of_decide_eq_true asm)
                replace q24:=eq_true q24
                go_wp2
                go_ret
                exact ⟨by first|rfl|(simp [errW_none,errW_some]<;>rfl)|(simp only [← hji20];first|rfl|(simp [errW_none,errW_some]<;>rfl))|(simp [*,errW_none,errW_some]<;>rfl),bel⟩
               ·rw [if_neg c25] at H
                have c25b0:((bt (rdOf ByteArray.empty l0_4 (ji20)) 0) == 43)=false:=beq_eq_false_iff_ne.mpr c25
                have c25b1:((bt (rdOf ByteArray.empty l0_4 (ji20)) 0) != 43)=true:=bne_iff_ne.mpr c25
                have H':=Aside0.mk H
                clear H
                have p18:0≤(0:Int):=(by omega)
                have q18:0<(rdOf ByteArray.empty l0_4 x3_1).size:=(by have:(0:Int)<((rdOf ByteArray.empty l0_4 x3_1).size:Int):=of_decide_eq_true asm;omega)
                have hx18:∀ h:0<(rdOf ByteArray.empty l0_4 x3_1).size,(((rdOf ByteArray.empty l0_4 x3_1)[0]'h).toNat:Int)=bt (rdOf ByteArray.empty l0_4 x3_1) 0:=bt_at (rdOf ByteArray.empty l0_4 x3_1) 0
                clear p18
                have qi18:(0<((rdOf ByteArray.empty l0_4 x3_1).size:Int))=True:=eq_true (of_decide_eq_true asm)
                replace q18:=eq_true q18
                have hcz27_0:wc.cell? ⟨gb290,0,none⟩=some (.int .i64 a0_0):=(blk_cell BK290.out 0).trans rfl
                have hcz27_1:wc.cell? ⟨gb290,1,none⟩=some (.int .i64 a0_1):=(blk_cell BK290.out 1).trans rfl
                have hcz27_2:wc.cell? ⟨gb290,2,none⟩=some (.int .i64 a0_2):=(blk_cell BK290.out 2).trans rfl
                have hcz27_3:wc.cell? ⟨gb290,3,none⟩=some (.int .i64 a0_3):=(blk_cell BK290.out 3).trans rfl
                have hcz27_4:wc.cell? ⟨gb290,4,none⟩=some (.slice (some ad293) l0_4.length c0_4):=(blk_cell BK290.out 4).trans rfl
                have hfz27_0:=blk_frozen BK290.out 0
                have hfz27_1:=blk_frozen BK290.out 1
                have hfz27_2:=blk_frozen BK290.out 2
                have hfz27_3:=blk_frozen BK290.out 3
                have hfz27_4:=blk_frozen BK290.out 4
                have p294:0≤((ji20):Int):=of_decide_eq_true asm
                have q294:(ji20)<(l0_4.length:Int):=of_decide_eq_true asm
                obtain ⟨ad294,e294,hx294_0⟩:=Kd.at_string HR0_4.out (ji20) p294 q294
                obtain rfl:ad293=ad294:=(by injection e294)
                replace hx294_0:=pw_cell_below HB.out hx294_0
                replace p294:=eq_true p294
                replace q294:=eq_true q294
                have p24:0≤(0:Int):=(by omega)
                have q24:0<(rdOf ByteArray.empty l0_4 (ji20)).size:=(by have:(0:Int)<((rdOf ByteArray.empty l0_4 (ji20)).size:Int):=of_decide_eq_true asm;omega)
                have hx24:∀ h:0<(rdOf ByteArray.empty l0_4 (ji20)).size,(((rdOf ByteArray.empty l0_4 (ji20))[0]'h).toNat:Int)=bt (rdOf ByteArray.empty l0_4 (ji20)) 0:=bt_at (rdOf ByteArray.empty l0_4 (ji20)) 0
                clear p24
                have qi24:(0<((rdOf ByteArray.empty l0_4 (ji20)).size:Int))=True:=eq_true (of_decide_eq_true asm)
                replace q24:=eq_true q24
                go_wp2
                go_roundg kj6
                case measure=>have:=HK1.out;have:=HJ6.out;omega
                case rel=>exact ⟨(wrap64 (x3_1+1)),rx,H',⟨by have:=HK1.out;have:=HJ6.out;omega⟩,⟨by (with_reducible repeat (first|refine blk_drewN ?_ _|refine blk_drew ?_|refine blk_alloc ?_ _));exact BK290.out⟩,⟨by repeat (first|(with_reducible first|exact HB.out|apply below_alloc|apply pw_below_drewN|apply below_drew1|refine below_set ?_ GE290.out)|exact HB.out)⟩⟩
              ·rw [if_neg c23] at H
               exact absurd H (by simp)
             ·rw [if_neg c22] at H
              exact absurd H (by simp)
            ·rw [if_neg c21] at H
             exact absurd H (by simp)
           ·rw [if_neg c19] at H
            have c19b0:((bt (rdOf ByteArray.empty l0_4 x3_1) 0) == 45)=false:=beq_eq_false_iff_ne.mpr c19
            have c19b1:((bt (rdOf ByteArray.empty l0_4 x3_1) 0) != 45)=true:=bne_iff_ne.mpr c19
            have H':=Aside0.mk H
            clear H
            have p18:0≤(0:Int):=(by omega)
            have q18:0<(rdOf ByteArray.empty l0_4 x3_1).size:=(by have:(0:Int)<((rdOf ByteArray.empty l0_4 x3_1).size:Int):=of_decide_eq_true asm;omega)
            have hx18:∀ h:0<(rdOf ByteArray.empty l0_4 x3_1).size,(((rdOf ByteArray.empty l0_4 x3_1)[0]'h).toNat:Int)=bt (rdOf ByteArray.empty l0_4 x3_1) 0:=bt_at (rdOf ByteArray.empty l0_4 x3_1) 0
            clear p18
            have qi18:(0<((rdOf ByteArray.empty l0_4 x3_1).size:Int))=True:=eq_true (of_decide_eq_true asm)
            replace q18:=eq_true q18
            go_wp2
            go_roundg kj6
            case measure=>have:=HK1.out;have:=HJ6.out;omega
            case rel=>exact ⟨(wrap64 (x3_1+1)),rx,H',⟨by have:=HK1.out;have:=HJ6.out;omega⟩,⟨by (with_reducible repeat (first|refine blk_drewN ?_ _|refine blk_drew ?_|refine blk_alloc ?_ _));exact BK290.out⟩,⟨by repeat (first|(with_reducible first|exact HB.out|apply below_alloc|apply pw_below_drewN|apply below_drew1|refine below_set ?_ GE290.out)|exact HB.out)⟩⟩
          ·rw [if_neg c17] at H
           exact absurd H (by simp)
         ·rw [if_neg c16] at H
          have c16b0:decide (0<x3_1)=false:=decide_eq_false c16
          clear c16
          have H':=Aside0.mk H
          clear H
          go_wp2
          go_roundg kj6
          case measure=>have:=HK1.out;have:=HJ6.out;omega
          case rel=>exact ⟨(wrap64 (x3_1+1)),rx,H',⟨by have:=HK1.out;have:=HJ6.out;omega⟩,⟨by (with_reducible repeat (first|refine blk_drewN ?_ _|refine blk_drew ?_|refine blk_alloc ?_ _));exact BK290.out⟩,⟨by repeat (first|(with_reducible first|exact HB.out|apply below_alloc|apply pw_below_drewN|apply below_drew1|refine below_set ?_ GE290.out)|exact HB.out)⟩⟩
    ·rw [if_neg c4] at H
     exact absurd H (by simp)
   ·rw [if_neg c3] at H
    have c3b0:decide (x3_1<(l0_4.length:Int))=false:=decide_eq_false c3
    clear c3
    by_cases c28:a0_0 ≥ 0
    ·rw [if_pos c28] at H
     have c28b0:decide (0≤a0_0)=true:=decide_eq_true c28
     clear c28
     by_cases c29:a0_2 ≥ 0
     ·rw [if_pos c29] at H
      have c29b0:decide (0≤a0_2)=true:=decide_eq_true c29
      clear c29
      replace H:=Option.bind_eq_some_iff.mp H
      obtain ⟨t291,A300,H⟩:=H
      replace H:(if a0_1=t291 then ((r05_Many.f k1 l0_4 43).bind fun t292=>(some (a0_3 == t292))) else (some false))=some r:=H
      have A30:=Aside0.mk A300
      clear A300
      by_cases c31:a0_1=t291
      ·rw [if_pos c31] at H
       have c31b0:(a0_1 == t291)=true:=beq_iff_eq.mpr c31
       have c31b1:(a0_1 != t291)=false:=bne_eq_false_iff_eq.mpr c31
       clear c31
       replace H:=Option.bind_eq_some_iff.mp H
       obtain ⟨t292,A320,H⟩:=H
       replace H:(some (a0_3 == t292))=some r:=H
       have A32:=Aside0.mk A320
       clear A320
       obtain rfl:=Option.some.inj H
       have hcz33_0:wr.cell? ⟨gb290,0,none⟩=some (.int .i64 a0_0):=(blk_cell BK290.out 0).trans rfl
       have hcz33_1:wr.cell? ⟨gb290,1,none⟩=some (.int .i64 a0_1):=(blk_cell BK290.out 1).trans rfl
       have hcz33_2:wr.cell? ⟨gb290,2,none⟩=some (.int .i64 a0_2):=(blk_cell BK290.out 2).trans rfl
       have hcz33_3:wr.cell? ⟨gb290,3,none⟩=some (.int .i64 a0_3):=(blk_cell BK290.out 3).trans rfl
       have hcz33_4:wr.cell? ⟨gb290,4,none⟩=some (.slice A0_4 l0_4.length c0_4):=(blk_cell BK290.out 4).trans rfl
       have hfz33_0:=blk_frozen BK290.out 0
       have hfz33_1:=blk_frozen BK290.out 1
       have hfz33_2:=blk_frozen BK290.out 2
       have hfz33_3:=blk_frozen BK290.out 3
       have hfz33_4:=blk_frozen BK290.out 4
       go_wp2_with (fail)
       repeat (go_quiet (first|(go_at_call 32;(with_reducible refine (r05_Many.calls k1 _ _ l0_4 45 t291 _ ?side1 ?side2 A30.out).mono ?_);(case side1=>repeat (first|exact (Kd.C_below HR0_4.out HB.out)|(with_reducible refine Kd.C_alloc ?_ _)|(with_reducible refine Kd.C_drewN ?_ _)|(with_reducible refine Kd.C_drew ?_)));(case side2=>exact HC0_4.out);rintro e w' ⟨rfl,⟨nd,rfl⟩⟩;(try first|exact ⟨rfl,_,World.drewN_drewN _ _ _⟩|exact ⟨rfl,_,Eq.trans (World.drewN_drewN _ _ _) (congrArg (World.drewN _) (Nat.add_assoc _ _ _))⟩))|(go_at_call 32;(with_reducible refine (r05_Many.calls k1 _ _ l0_4 43 t292 _ ?side1 ?side2 A32.out).mono ?_);(case side1=>repeat (first|exact (Kd.C_below HR0_4.out bel)|(with_reducible refine Kd.C_alloc ?_ _)|(with_reducible refine Kd.C_drewN ?_ _)|(with_reducible refine Kd.C_drew ?_)));(case side2=>exact HC0_4.out);rintro e w' ⟨rfl,⟨nd,rfl⟩⟩;(try first|exact ⟨rfl,_,World.drewN_drewN _ _ _⟩|exact ⟨rfl,_,Eq.trans (World.drewN_drewN _ _ _) (congrArg (World.drewN _) (Nat.add_assoc _ _ _))⟩)));try go_wp2_with (fail))
       go_ret
       exact ⟨by first|rfl|(simp [errW_none,errW_some]<;>rfl)|(simp [*,errW_none,errW_some]<;>rfl),bel⟩
      ·rw [if_neg c31] at H
       have c31b0:(a0_1 == t291)=false:=beq_eq_false_iff_ne.mpr c31
       have c31b1:(a0_1 != t291)=true:=bne_iff_ne.mpr c31
       obtain rfl:=Option.some.inj H
       have hcz34_0:wr.cell? ⟨gb290,0,none⟩=some (.int .i64 a0_0):=(blk_cell BK290.out 0).trans rfl
       have hcz34_1:wr.cell? ⟨gb290,1,none⟩=some (.int .i64 a0_1):=(blk_cell BK290.out 1).trans rfl
       have hcz34_2:wr.cell? ⟨gb290,2,none⟩=some (.int .i64 a0_2):=(blk_cell BK290.out 2).trans rfl
       have hcz34_3:wr.cell? ⟨gb290,3,none⟩=some (.int .i64 a0_3):=(blk_cell BK290.out 3).trans rfl
       have hcz34_4:wr.cell? ⟨gb290,4,none⟩=some (.slice A0_4 l0_4.length c0_4):=(blk_cell BK290.out 4).trans rfl
       have hfz34_0:=blk_frozen BK290.out 0
       have hfz34_1:=blk_frozen BK290.out 1
       have hfz34_2:=blk_frozen BK290.out 2
       have hfz34_3:=blk_frozen BK290.out 3
       have hfz34_4:=blk_frozen BK290.out 4
       go_wp2_with (fail)
       repeat (go_quiet ((go_at_call 32;(with_reducible refine (r05_Many.calls k1 _ _ l0_4 45 t291 _ ?side1 ?side2 A30.out).mono ?_);(case side1=>repeat (first|exact (Kd.C_below HR0_4.out HB.out)|(with_reducible refine Kd.C_alloc ?_ _)|(with_reducible refine Kd.C_drewN ?_ _)|(with_reducible refine Kd.C_drew ?_)));(case side2=>exact HC0_4.out);rintro e w' ⟨rfl,⟨nd,rfl⟩⟩;(try first|exact ⟨rfl,_,World.drewN_drewN _ _ _⟩|exact ⟨rfl,_,Eq.trans (World.drewN_drewN _ _ _) (congrArg (World.drewN _) (Nat.add_assoc _ _ _))⟩)));try go_wp2_with (fail))
       go_ret
       exact ⟨by first|rfl|(simp [errW_none,errW_some]<;>rfl)|(simp [*,errW_none,errW_some]<;>rfl),bel⟩
     ·rw [if_neg c29] at H
      have c29b0:decide (0≤a0_2)=false:=decide_eq_false c29
      clear c29
      obtain rfl:=Option.some.inj H
      have hcz35_0:wr.cell? ⟨gb290,0,none⟩=some (.int .i64 a0_0):=(blk_cell BK290.out 0).trans rfl
      have hcz35_1:wr.cell? ⟨gb290,1,none⟩=some (.int .i64 a0_1):=(blk_cell BK290.out 1).trans rfl
      have hcz35_2:wr.cell? ⟨gb290,2,none⟩=some (.int .i64 a0_2):=(blk_cell BK290.out 2).trans rfl
      have hcz35_3:wr.cell? ⟨gb290,3,none⟩=some (.int .i64 a0_3):=(blk_cell BK290.out 3).trans rfl
      have hcz35_4:wr.cell? ⟨gb290,4,none⟩=some (.slice A0_4 l0_4.length c0_4):=(blk_cell BK290.out 4).trans rfl
      have hfz35_0:=blk_frozen BK290.out 0
      have hfz35_1:=blk_frozen BK290.out 1
      have hfz35_2:=blk_frozen BK290.out 2
      have hfz35_3:=blk_frozen BK290.out 3
      have hfz35_4:=blk_frozen BK290.out 4
      go_wp2
      repeat (go_quiet (fail);try go_wp2)
      go_ret
      exact ⟨by first|rfl|(simp [errW_none,errW_some]<;>rfl)|(simp [*,errW_none,errW_some]<;>rfl),bel⟩
    ·rw [if_neg c28] at H
     have c28b0:decide (0≤a0_0)=false:=decide_eq_false c28
     clear c28
     obtain rfl:=Option.some.inj H
     have hcz36_0:wr.cell? ⟨gb290,0,none⟩=some (.int .i64 a0_0):=(blk_cell BK290.out 0).trans rfl
     have hcz36_1:wr.cell? ⟨gb290,1,none⟩=some (.int .i64 a0_1):=(blk_cell BK290.out 1).trans rfl
     have hcz36_2:wr.cell? ⟨gb290,2,none⟩=some (.int .i64 a0_2):=(blk_cell BK290.out 2).trans rfl
     have hcz36_3:wr.cell? ⟨gb290,3,none⟩=some (.int .i64 a0_3):=(blk_cell BK290.out 3).trans rfl
     have hcz36_4:wr.cell? ⟨gb290,4,none⟩=some (.slice A0_4 l0_4.length c0_4):=(blk_cell BK290.out 4).trans rfl
     have hfz36_0:=blk_frozen BK290.out 0
     have hfz36_1:=blk_frozen BK290.out 1
     have hfz36_2:=blk_frozen BK290.out 2
     have hfz36_3:=blk_frozen BK290.out 3
     have hfz36_4:=blk_frozen BK290.out 4
     go_wp2
     repeat (go_quiet (fail);try go_wp2)
     go_ret
     exact ⟨by first|rfl|(simp [errW_none,errW_some]<;>rfl)|(simp [*,errW_none,errW_some]<;>rfl),bel⟩

end Go.Proofs.Ytoaijganmfijmaa.Pr
-- shrunk
