/-
Several plain texts in one.
-/
import Derived.Test.YtnmphfelebkaiaaGRightA
import Derived.Test.YtnmphfelebkaiaaK1
import Derived.Test.YtnmphfelebkaiaaK0
import Derived.Test.YtnmphfelebkaiaaGRegF
/-
The document's part: a span's lines, or that it isn't one of them, from a place on.
-/
namespace Go.Proofs.Ytnmphfelebkaiaa.Pr
open Go.RowKit Go.Proofs.YtnmphfelebkaiaaW.PrintWords Go.Proofs.YtnmphfelebkaiaaW.PrintLast Go.Proofs.YtnmphfelebkaiaaW.PrintMore
set_option linter.unusedVariables false
set_option linter.unusedSimpArgs false
set_option maxRecDepth 100000 in
set_option maxHeartbeats 8000000 in
theorem part_no (A : Option Addr) (c : Nat) (l : List ByteArray) (s : S30) (t : Nat) (w : World) (ht : t ≤ l.length) (hn : l.length ≤ 1099511627776) (h : liesP s t l.length = false) :
  Calls Try.prog 24 #[.slice A l.length c, .agg #[.int .i64 s.f0, .int .i64 s.f1], .int .i64 (t : Int)] w fun e w' => e = .returned (.tuple #[.slice none 0 0, .bool false]) ∧ Below w.heap.size w w' := by
 rw [liesP, decide_eq_false_iff_not] at h
 have hu := Try.underlying30
 rcases s with ⟨u, v⟩
 dsimp only at h ⊢
 go_enter Try.func24, Try.ntmps24
 by_cases c1 : u = (t : Int)
 ·subst c1
  have c1b : ((t : Int) != (t : Int)) = false := bne_eq_false_iff_eq.mpr rfl
  by_cases c2 : v < 0
  ·have c2b : decide (v < 0) = true := decide_eq_true c2
   clear c2
   go_wp2
   go_ret2
   exact ⟨rfl, below_alloc (Below.refl _ _) _⟩
  ·have c2b : decide (v < 0) = false := decide_eq_false c2
   have c3b : decide ((l.length : Int) < (t : Int)) = false := decide_eq_false (by omega)
   have c3c : decide (l.length < t) = false := decide_eq_false (by omega)
   have kx : IntKind.i64.wrap ((l.length : Int) - (t : Int)) = (l.length : Int) - (t : Int) := IntWalk.i64_in _ (by omega)
   have c4b : decide ((l.length : Int) - (t : Int) < v) = true := decide_eq_true (by
    rcases Int.lt_or_le ((l.length : Int) - (t : Int)) v with h5 | h5
    ·exact h5
    ·exact absurd ⟨rfl, by omega, h5⟩ h)
   clear c2 h ht hn
   go_wp2
   go_ret2
   exact ⟨rfl, below_alloc (Below.refl _ _) _⟩
 ·have c1b : (u != (t : Int)) = true := bne_iff_ne.mpr c1
  clear c1 h
  go_wp2
  go_ret2
  exact ⟨rfl, below_alloc (Below.refl _ _) _⟩
set_option maxRecDepth 100000 in
set_option maxHeartbeats 8000000 in
theorem part_yes (A : Option Addr) (c : Nat) (l p : List ByteArray) (lo n : Nat) (w : World) (hp : p = (l.drop lo).take n) (hm : l.length ≤ 1099511627776) (hc : l.length ≤ c) (h1 : lo + n ≤ l.length) :
  Calls Try.prog 24 #[.slice A l.length c, .agg #[.int .i64 (lo : Int), .int .i64 (n : Int)], .int .i64 (lo : Int)] w fun e w' => (∃ A', e = .returned (.tuple #[.slice A' p.length (c - lo), .bool true]) ∧ (∀ W, Kd.C Kd.string W A l.length l → Kd.C Kd.string W A' p.length p) ∧ p.length ≤ c - lo) ∧ Below w.heap.size w w' := by
 rw [hp]
 have kx : IntKind.i64.wrap ((lo : Int) + (n : Int)) = ((lo + n : Nat) : Int) := by rw [IntWalk.i64_in _ (by omega)]; omega
 have ky : IntKind.i64.wrap ((l.length : Int) - (lo : Int)) = (l.length : Int) - (lo : Int) := IntWalk.i64_in _ (by omega)
 have hu := Try.underlying30
 have c1b : ((lo : Int) != (lo : Int)) = false := bne_eq_false_iff_eq.mpr rfl
 have c2b : decide ((n : Int) < 0) = false := decide_eq_false (by omega)
 have c3b : decide ((l.length : Int) < (lo : Int)) = false := decide_eq_false (by omega)
 have c3c : decide (l.length < lo) = false := decide_eq_false (by omega)
 have c4b : decide ((l.length : Int) - (lo : Int) < (n : Int)) = false := decide_eq_false (by omega)
 obtain ⟨A', hs1, hC1, hl1⟩ := cutMidA A c l lo n h1 hc
 obtain ⟨y, hy⟩ : ∃ y, y = (l.drop lo).take n := ⟨_, rfl⟩
 rw [← hy] at hs1 hC1 hl1 ⊢
 obtain ⟨z, hz⟩ : ∃ z : Nat, z = lo + n := ⟨_, rfl⟩
 rw [← hz] at hs1 kx
 have HC1 := Aside0.mk hC1
 have HL1 := Aside0.mk hl1
 clear hC1 hl1 hm hc h1 hy hz hp
 go_enter Try.func24, Try.ntmps24
 go_wp2
 go_ret2
 exact ⟨⟨A', rfl, HC1.out, HL1.out⟩, below_alloc (Below.refl _ _) _⟩
theorem part_any (A : Option Addr) (c : Nat) (l : List ByteArray) (s : S30) (t : Nat) (w : World) (ht : t ≤ l.length) (hn : l.length ≤ 1099511627776) (hc : l.length ≤ c) :
  Calls Try.prog 24 #[.slice A l.length c, .agg #[.int .i64 s.f0, .int .i64 s.f1], .int .i64 (t : Int)] w fun e w' => (∃ v, e = .returned (.tuple #[v, .bool (liesP s t l.length)]) ∧
   (liesP s t l.length = true → ∃ A', v = .slice A' (cutP l s).length (c - t) ∧ (∀ W, Kd.C Kd.string W A l.length l → Kd.C Kd.string W A' (cutP l s).length (cutP l s)) ∧ (cutP l s).length ≤ c - t)) ∧ Below w.heap.size w w' := by
 cases h : liesP s t l.length with
 | false =>
  refine (part_no A c l s t w ht hn h).mono fun e w' hh => ?_
  exact ⟨⟨_, hh.1, fun h => by cases h⟩, hh.2⟩
 | true =>
  obtain ⟨m, rfl, hm⟩ := liesP_split h
  refine (part_yes A c l _ t m w rfl hn hc hm).mono fun e w' hh => ?_
  obtain ⟨⟨A', h1, h2, h3⟩, hb⟩ := hh
  have e : cutP l ⟨(t : Int), (m : Int)⟩ = (l.drop t).take m := by rw [cutP, Int.toNat_natCast, Int.toNat_natCast]
  rw [e]
  exact ⟨⟨_, h1, fun _ => ⟨A', rfl, h2, h3⟩⟩, hb⟩
theorem cut_len {s : S30} {t : Nat} {l : List ByteArray} (h : liesP s t l.length = true) : (cutP l s).length = s.f1.toNat ∧ t + s.f1.toNat ≤ l.length := by
 obtain ⟨m, rfl, hm⟩ := liesP_split h
 rw [cutP, Int.toNat_natCast, Int.toNat_natCast, List.length_take, List.length_drop]
 omega
end Go.Proofs.Ytnmphfelebkaiaa.Pr
-- shrunk
/-
The document's Right: whether regions are right.
-/
namespace Go.Proofs.Ytnmphfelebkaiaa.Pr
open Go.RowKit Go.Proofs.YtnmphfelebkaiaaW.PrintWords Go.Proofs.YtnmphfelebkaiaaW.PrintLast Go.Proofs.YtnmphfelebkaiaaW.PrintMore
set_option linter.unusedVariables false
set_option linter.unusedSimpArgs false
def grapevineref08_Right.f (l : List S32) (o a b : List ByteArray) : Option Bool := if RightOk l o a b then some (rightR o a b 0 0 0 l) else none
def saysB (k : Int) (bl br bb : Bool) : Bool := if k = 0 then bl && br else if k = 1 then br else if k = 2 then bl else if k = 3 then bb else decide (k = 4)
theorem holds_says (k : Int) (p q r : List ByteArray) : holdsP k p q r = saysB k (decide (p = q)) (decide (p = r)) (decide (q = r)) := by
 unfold holdsP saysB
 rw [Bool.decide_and]
set_option maxRecDepth 100000 in
set_option maxHeartbeats 8000000 in
theorem grapevineref08_Right.calls (A0 : Option Addr) (c0 : Nat) (l : List S32) (A1 : Option Addr) (c1 : Nat) (o : List ByteArray) (A2 : Option Addr) (c2 : Nat) (a : List ByteArray) (A3 : Option Addr) (c3 : Nat) (b : List ByteArray) (r : Bool) (w : World)
  (hr0 : Kd.C k32 w A0 l.length l) (hc0 : l.length ≤ c0) (hr1 : Kd.C Kd.string w A1 o.length o) (hc1 : o.length ≤ c1) (hr2 : Kd.C Kd.string w A2 a.length a) (hc2 : a.length ≤ c2) (hr3 : Kd.C Kd.string w A3 b.length b) (hc3 : b.length ≤ c3) (h : grapevineref08_Right.f l o a b = some r) :
  Calls Try.prog 12 #[.slice A0 l.length c0, .slice A1 o.length c1, .slice A2 a.length c2, .slice A3 b.length c3] w fun e w' => e = .returned (.bool r) ∧ Below w.heap.size w w' := by
 unfold grapevineref08_Right.f at h
 by_cases hok : RightOk l o a b
 ·rw [if_pos hok] at h
  obtain rfl := Option.some.inj h
  clear h
  have hu32 := Try.underlying32
  have hu30 := Try.underlying30
  have HK := Aside0.mk hok
  have HR0 := Aside0.mk hr0
  have HC0 := Aside0.mk hc0
  have HR1 := Aside0.mk hr1
  have HC1 := Aside0.mk hc1
  have HR2 := Aside0.mk hr2
  have HC2 := Aside0.mk hc2
  have HR3 := Aside0.mk hr3
  have HC3 := Aside0.mk hc3
  have hll := hok.l
  clear hok hr0 hc0 hr1 hc1 hr2 hc2 hr3 hc3
  go_enter Try.func12, Try.ntmps12
  go_wp2
  go_loopw [9, 10, 11, 12] (fun v9 v10 v11 v16 wr => ∃ i x y z : Nat, v9 = .int .i64 (x : Int) ∧ v10 = .int .i64 (y : Int) ∧ v11 = .int .i64 (z : Int) ∧ v16 = .int .i64 (i : Int) ∧ Aside0 (i ≤ l.length ∧ x ≤ o.length ∧ y ≤ a.length ∧ z ≤ b.length) ∧ Aside0 (rightR o a b x y z (l.drop i) = rightR o a b 0 0 0 l) ∧ Aside0 (Below w.heap.size w wr)) (fun _ _ _ v16 _ => l.length - (intOf v16).toNat)
  case atStart => exact ⟨0, 0, 0, 0, rfl, rfl, rfl, rfl, ⟨by omega, by omega, by omega, by omega⟩, ⟨rfl⟩, ⟨Below.refl _ _⟩⟩
  case round =>
   obtain ⟨i, x, y, z, rfl, rfl, rfl, rfl, HI, HQ, HB⟩ := hrel
   by_cases hlt : i < l.length
   ·have f1 : decide ((i : Int) < (l.length : Int)) = true := decide_eq_true (by omega)
    have f1' : decide (i < l.length) = true := decide_eq_true hlt
    obtain ⟨ad, e, h0, h1, h2, h3, h4, h5, h6⟩ := at_rg HR0.out i hlt
    cases e
    obtain ⟨r, hr⟩ : ∃ r, r = l[i] := ⟨_, rfl⟩
    rw [← hr] at h0 h1 h2 h3 h4 h5 h6
    have HSL := Aside0.mk (show rightR o a b 0 0 0 l = (liesP r.f1 x o.length && liesP r.f2 y a.length && liesP r.f3 z b.length && holdsP r.f0 (cutP o r.f1) (cutP a r.f2) (cutP b r.f3) && rightR o a b (x + r.f1.f1.toNat) (y + r.f2.f1.toNat) (z + r.f3.f1.toNat) (l.drop (i + 1))) by
     rw [← HQ.out, show l.drop i = r :: l.drop (i + 1) by rw [hr]; exact List.drop_eq_getElem_cons hlt, rightR])
    replace h0 := pw_cell_below HB.out h0
    replace h1 := pw_cell_below HB.out h1
    replace h2 := pw_cell_below HB.out h2
    replace h3 := pw_cell_below HB.out h3
    replace h4 := pw_cell_below HB.out h4
    replace h5 := pw_cell_below HB.out h5
    replace h6 := pw_cell_below HB.out h6
    have g0 : (0 : Int) ≤ (i : Int) := by omega
    have g1 : (i : Int) < (l.length : Int) := by omega
    have ki : IntKind.i64.wrap ((i : Int) + 1) = (i : Int) + 1 := IntWalk.i64_in _ (by omega)
    clear hr
    go_upto_region 8 with (first | (go_at_call 24; (with_reducible refine (part_any A1 c1 o r.f1 x _ HI.out.2.1 HK.out.o HC1.out).mono ?_); rintro e w1 ⟨⟨V1, rfl, hV⟩, hb⟩; have HV1 := Aside0.mk hV; have HB_ := Aside0.mk (below_step HB.out hb); clear hV HB; have HB := HB_; clear HB_; replace h0 := pw_cell_below hb h0; replace h1 := pw_cell_below hb h1; replace h2 := pw_cell_below hb h2; replace h3 := pw_cell_below hb h3; replace h4 := pw_cell_below hb h4; replace h5 := pw_cell_below hb h5; replace h6 := pw_cell_below hb h6; clear hb))
    go_upto_region 9 with (first | (go_at_call 24; (with_reducible refine (part_any A2 c2 a r.f2 y _ HI.out.2.2.1 HK.out.a HC2.out).mono ?_); rintro e w2 ⟨⟨V2, rfl, hV⟩, hb⟩; have HV2 := Aside0.mk hV; have HB_ := Aside0.mk (below_step HB.out hb); clear hV HB; have HB := HB_; clear HB_; replace h0 := pw_cell_below hb h0; replace h1 := pw_cell_below hb h1; replace h2 := pw_cell_below hb h2; replace h3 := pw_cell_below hb h3; replace h4 := pw_cell_below hb h4; replace h5 := pw_cell_below hb h5; replace h6 := pw_cell_below hb h6; clear hb))
    go_upto_region 10 with (first | (go_at_call 24; (with_reducible refine (part_any A3 c3 b r.f3 z _ HI.out.2.2.2 HK.out.b HC3.out).mono ?_); rintro e w3 ⟨⟨V3, rfl, hV⟩, hb⟩; have HV3 := Aside0.mk hV; have HB_ := Aside0.mk (below_step HB.out hb); clear hV HB; have HB := HB_; clear HB_; replace h0 := pw_cell_below hb h0; replace h1 := pw_cell_below hb h1; replace h2 := pw_cell_below hb h2; replace h3 := pw_cell_below hb h3; replace h4 := pw_cell_below hb h4; replace h5 := pw_cell_below hb h5; replace h6 := pw_cell_below hb h6; clear hb))
    obtain ⟨z1, hz1⟩ : ∃ bv, bv = liesP r.f1 x o.length := ⟨_, rfl⟩
    obtain ⟨z2, hz2⟩ : ∃ bv, bv = liesP r.f2 y a.length := ⟨_, rfl⟩
    obtain ⟨z3, hz3⟩ : ∃ bv, bv = liesP r.f3 z b.length := ⟨_, rfl⟩
    rw [← hz1, ← hz2, ← hz3] at HSL
    rw [← hz1] at HV1
    rw [← hz2] at HV2
    rw [← hz3] at HV3
    rw [← hz1, ← hz2, ← hz3]
    have HZ := Aside0.mk (And.intro hz1 (And.intro hz2 hz3))
    clear hz1 hz2 hz3
    cases z1 with
    | false =>
     have HNO := Aside0.mk (show rightR o a b 0 0 0 l = false by rw [HSL.out]; rfl)
     clear HV1 HV2 HV3 HSL
     go_wp2
     go_ret
     exact ⟨by rw [HNO.out]; rfl, HB.out⟩
    | true =>
    cases z2 with
    | false =>
     have HNO := Aside0.mk (show rightR o a b 0 0 0 l = false by rw [HSL.out]; rfl)
     clear HV1 HV2 HV3 HSL
     go_wp2
     go_ret
     exact ⟨by rw [HNO.out]; rfl, HB.out⟩
    | true =>
    cases z3 with
    | false =>
     have HNO := Aside0.mk (show rightR o a b 0 0 0 l = false by rw [HSL.out]; rfl)
     clear HV1 HV2 HV3 HSL
     go_wp2
     go_ret
     exact ⟨by rw [HNO.out]; rfl, HB.out⟩
    | true =>
    obtain ⟨D1, rfl, hD1, hd1⟩ := HV1.out rfl
    obtain ⟨D2, rfl, hD2, hd2⟩ := HV2.out rfl
    obtain ⟨D3, rfl, hD3, hd3⟩ := HV3.out rfl
    have HD1 := Aside0.mk hD1
    have HD2 := Aside0.mk hD2
    have HD3 := Aside0.mk hD3
    have Hd1 := Aside0.mk hd1
    have Hd2 := Aside0.mk hd2
    have Hd3 := Aside0.mk hd3
    have HN := Aside0.mk (And.intro (cut_len HZ.out.1.symm).1 (And.intro (cut_len HZ.out.2.1.symm).1 (cut_len HZ.out.2.2.symm).1))
    have HLE := Aside0.mk (And.intro (cut_len HZ.out.1.symm).2 (And.intro (cut_len HZ.out.2.1.symm).2 (cut_len HZ.out.2.2.symm).2))
    have k1 : IntKind.i64.wrap ((x : Int) + ((cutP o r.f1).length : Int)) = (x : Int) + ((cutP o r.f1).length : Int) := IntWalk.i64_in _ (by have := HN.out.1; have := HLE.out.1; have := HK.out.o; omega)
    have k2 : IntKind.i64.wrap ((y : Int) + ((cutP a r.f2).length : Int)) = (y : Int) + ((cutP a r.f2).length : Int) := IntWalk.i64_in _ (by have := HN.out.2.1; have := HLE.out.2.1; have := HK.out.a; omega)
    have k3 : IntKind.i64.wrap ((z : Int) + ((cutP b r.f3).length : Int)) = (z : Int) + ((cutP b r.f3).length : Int) := IntWalk.i64_in _ (by have := HN.out.2.2; have := HLE.out.2.2; have := HK.out.b; omega)
    clear HV1 HV2 HV3 hD1 hD2 hD3 hd1 hd2 hd3
    simp only [Bool.true_and] at HSL
    obtain ⟨kbl, hebl⟩ := (Texts_ev (cutP o r.f1) (cutP a r.f2) (by have := HN.out.1; have := HLE.out.1; have := HK.out.o; omega)).rounds
    obtain ⟨kbr, hebr⟩ := (Texts_ev (cutP o r.f1) (cutP b r.f3) (by have := HN.out.1; have := HLE.out.1; have := HK.out.o; omega)).rounds
    obtain ⟨kbb, hebb⟩ := (Texts_ev (cutP a r.f2) (cutP b r.f3) (by have := HN.out.2.1; have := HLE.out.2.1; have := HK.out.a; omega)).rounds
    have hsay := holds_says r.f0 (cutP o r.f1) (cutP a r.f2) (cutP b r.f3)
    generalize decide (cutP o r.f1 = cutP a r.f2) = bl at hebl hsay
    generalize decide (cutP o r.f1 = cutP b r.f3) = br at hebr hsay
    generalize decide (cutP a r.f2 = cutP b r.f3) = bb at hebb hsay
    have HEbl := Aside0.mk hebl
    have HEbr := Aside0.mk hebr
    have HEbb := Aside0.mk hebb
    have HH := Aside0.mk hsay
    have HNo := Aside0.mk (show holdsP r.f0 (cutP o r.f1) (cutP a r.f2) (cutP b r.f3) = false → rightR o a b 0 0 0 l = false from fun e => by rw [HSL.out, e]; rfl)
    have HYes := Aside0.mk (show holdsP r.f0 (cutP o r.f1) (cutP a r.f2) (cutP b r.f3) = true → rightR o a b (x + (cutP o r.f1).length) (y + (cutP a r.f2).length) (z + (cutP b r.f3).length) (l.drop (i + 1)) = rightR o a b 0 0 0 l from fun e => by rw [HSL.out, e, HN.out.1, HN.out.2.1, HN.out.2.2]; rfl)
    clear hebl hebr hebb hsay HSL
    obtain ⟨P1, hP1⟩ : ∃ p, p = cutP o r.f1 := ⟨_, rfl⟩
    obtain ⟨P2, hP2⟩ : ∃ p, p = cutP a r.f2 := ⟨_, rfl⟩
    obtain ⟨P3, hP3⟩ : ∃ p, p = cutP b r.f3 := ⟨_, rfl⟩
    rw [← hP1] at HD1 Hd1 HN HEbl HEbr HH HNo HYes k1 ⊢
    rw [← hP2] at HD2 Hd2 HN HEbl HEbb HH HNo HYes k2 ⊢
    rw [← hP3] at HD3 Hd3 HN HEbr HEbb HH HNo HYes k3 ⊢
    obtain ⟨q, hq⟩ : ∃ q, q = r.f0 := ⟨_, rfl⟩
    rw [← hq] at h0 HH HNo HYes
    clear hq hP1 hP2 hP3
    by_cases q0 : q < 0
    ·have q0b : decide (q < 0) = true := decide_eq_true q0
     have HNO := Aside0.mk (HNo.out (by
      rw [HH.out, saysB, if_neg (by omega), if_neg (by omega), if_neg (by omega), if_neg (by omega)]
      exact decide_eq_false (by omega)))
     clear q0
     go_wp2
     go_ret
     exact ⟨by rw [HNO.out]; rfl, HB.out⟩
    have q0b : decide (q < 0) = false := decide_eq_false q0
    by_cases q4 : 4 < q
    ·have q4b : decide (4 < q) = true := decide_eq_true q4
     have HNO := Aside0.mk (HNo.out (by
      rw [HH.out, saysB, if_neg (by omega), if_neg (by omega), if_neg (by omega), if_neg (by omega)]
      exact decide_eq_false (by omega)))
     clear q0 q4
     go_wp2
     go_ret
     exact ⟨by rw [HNO.out]; rfl, HB.out⟩
    have q4b : decide (4 < q) = false := decide_eq_false q4
    have HK5 := Aside0.mk (show q = 0 ∨ q = 1 ∨ q = 2 ∨ q = 3 ∨ q = 4 by omega)
    clear q0 q4
    go_upto_region 13 with (first | (go_at_call 13; (with_reducible refine (grapevineref01_Texts.calls kbl D1 _ P1 D2 _ P2 bl _ (HD1.out _ (Kd.C_below HR1.out HB.out)) Hd1.out (HD2.out _ (Kd.C_below HR2.out HB.out)) Hd2.out HEbl.out).mono ?_); rintro e wt0 ⟨rfl, hdr⟩; have hb := below_drawn hdr; clear hdr; have HB_ := Aside0.mk (below_step HB.out hb); clear HB; have HB := HB_; clear HB_; replace h0 := pw_cell_below hb h0; replace h1 := pw_cell_below hb h1; replace h2 := pw_cell_below hb h2; replace h3 := pw_cell_below hb h3; replace h4 := pw_cell_below hb h4; replace h5 := pw_cell_below hb h5; replace h6 := pw_cell_below hb h6; clear hb))
    go_upto_region 14 with (first | (go_at_call 13; (with_reducible refine (grapevineref01_Texts.calls kbr D1 _ P1 D3 _ P3 br _ (HD1.out _ (Kd.C_below HR1.out HB.out)) Hd1.out (HD3.out _ (Kd.C_below HR3.out HB.out)) Hd3.out HEbr.out).mono ?_); rintro e wt1 ⟨rfl, hdr⟩; have hb := below_drawn hdr; clear hdr; have HB_ := Aside0.mk (below_step HB.out hb); clear HB; have HB := HB_; clear HB_; replace h0 := pw_cell_below hb h0; replace h1 := pw_cell_below hb h1; replace h2 := pw_cell_below hb h2; replace h3 := pw_cell_below hb h3; replace h4 := pw_cell_below hb h4; replace h5 := pw_cell_below hb h5; replace h6 := pw_cell_below hb h6; clear hb))
    go_upto_region 15 with (first | (go_at_call 13; (with_reducible refine (grapevineref01_Texts.calls kbb D2 _ P2 D3 _ P3 bb _ (HD2.out _ (Kd.C_below HR2.out HB.out)) Hd2.out (HD3.out _ (Kd.C_below HR3.out HB.out)) Hd3.out HEbb.out).mono ?_); rintro e wt2 ⟨rfl, hdr⟩; have hb := below_drawn hdr; clear hdr; have HB_ := Aside0.mk (below_step HB.out hb); clear HB; have HB := HB_; clear HB_; replace h0 := pw_cell_below hb h0; replace h1 := pw_cell_below hb h1; replace h2 := pw_cell_below hb h2; replace h3 := pw_cell_below hb h3; replace h4 := pw_cell_below hb h4; replace h5 := pw_cell_below hb h5; replace h6 := pw_cell_below hb h6; clear hb))
    clear q0b q4b
    rcases HK5.out with rfl | rfl | rfl | rfl | rfl
    ·cases bl with
     | false =>
      have HNO := Aside0.mk (HNo.out (by rw [HH.out]; rfl))
      go_wp2
      go_ret
      exact ⟨by rw [HNO.out]; rfl, HB.out⟩
     | true =>
      cases br with
      | false =>
       have HNO := Aside0.mk (HNo.out (by rw [HH.out]; rfl))
       go_wp2
       go_ret
       exact ⟨by rw [HNO.out]; rfl, HB.out⟩
      | true =>
       have HYES := Aside0.mk (HYes.out (by rw [HH.out]; rfl))
       go_wp2
       repeat (go_quiet (fail); try go_wp2)
       go_roundw
       case rel =>
        refine ⟨i + 1, x + P1.length, y + P2.length, z + P3.length, by go_num, by go_num, by go_num, by go_num, ⟨by omega, by rw [HN.out.1]; exact HLE.out.1, by rw [HN.out.2.1]; exact HLE.out.2.1, by rw [HN.out.2.2]; exact HLE.out.2.2⟩, HYES, ⟨by repeat (first | exact HB.out | apply pw_below_drewN | apply below_drew1)⟩⟩
       case measure => simp [intOf]; omega
    ·cases br with
     | false =>
      have HNO := Aside0.mk (HNo.out (by rw [HH.out]; rfl))
      go_wp2
      go_ret
      exact ⟨by rw [HNO.out]; rfl, HB.out⟩
     | true =>
      have HYES := Aside0.mk (HYes.out (by rw [HH.out]; rfl))
      go_wp2
      repeat (go_quiet (fail); try go_wp2)
      go_roundw
      case rel =>
       refine ⟨i + 1, x + P1.length, y + P2.length, z + P3.length, by go_num, by go_num, by go_num, by go_num, ⟨by omega, by rw [HN.out.1]; exact HLE.out.1, by rw [HN.out.2.1]; exact HLE.out.2.1, by rw [HN.out.2.2]; exact HLE.out.2.2⟩, HYES, ⟨by repeat (first | exact HB.out | apply pw_below_drewN | apply below_drew1)⟩⟩
      case measure => simp [intOf]; omega
    ·cases bl with
     | false =>
      have HNO := Aside0.mk (HNo.out (by rw [HH.out]; rfl))
      go_wp2
      go_ret
      exact ⟨by rw [HNO.out]; rfl, HB.out⟩
     | true =>
      have HYES := Aside0.mk (HYes.out (by rw [HH.out]; rfl))
      go_wp2
      repeat (go_quiet (fail); try go_wp2)
      go_roundw
      case rel =>
       refine ⟨i + 1, x + P1.length, y + P2.length, z + P3.length, by go_num, by go_num, by go_num, by go_num, ⟨by omega, by rw [HN.out.1]; exact HLE.out.1, by rw [HN.out.2.1]; exact HLE.out.2.1, by rw [HN.out.2.2]; exact HLE.out.2.2⟩, HYES, ⟨by repeat (first | exact HB.out | apply pw_below_drewN | apply below_drew1)⟩⟩
      case measure => simp [intOf]; omega
    ·cases bb with
     | false =>
      have HNO := Aside0.mk (HNo.out (by rw [HH.out]; rfl))
      go_wp2
      go_ret
      exact ⟨by rw [HNO.out]; rfl, HB.out⟩
     | true =>
      have HYES := Aside0.mk (HYes.out (by rw [HH.out]; rfl))
      go_wp2
      repeat (go_quiet (fail); try go_wp2)
      go_roundw
      case rel =>
       refine ⟨i + 1, x + P1.length, y + P2.length, z + P3.length, by go_num, by go_num, by go_num, by go_num, ⟨by omega, by rw [HN.out.1]; exact HLE.out.1, by rw [HN.out.2.1]; exact HLE.out.2.1, by rw [HN.out.2.2]; exact HLE.out.2.2⟩, HYES, ⟨by repeat (first | exact HB.out | apply pw_below_drewN | apply below_drew1)⟩⟩
      case measure => simp [intOf]; omega
    ·have HYES := Aside0.mk (HYes.out (by rw [HH.out]; rfl))
     go_wp2
     repeat (go_quiet (fail); try go_wp2)
     go_roundw
     case rel =>
      refine ⟨i + 1, x + P1.length, y + P2.length, z + P3.length, by go_num, by go_num, by go_num, by go_num, ⟨by omega, by rw [HN.out.1]; exact HLE.out.1, by rw [HN.out.2.1]; exact HLE.out.2.1, by rw [HN.out.2.2]; exact HLE.out.2.2⟩, HYES, ⟨by repeat (first | exact HB.out | apply pw_below_drewN | apply below_drew1)⟩⟩
     case measure => simp [intOf]; omega
   ·have f1 : decide ((i : Int) < (l.length : Int)) = false := decide_eq_false (by omega)
    have hle : (l.length : Int) ≤ (i : Int) := by omega
    have HE := Aside0.mk (show rightR o a b 0 0 0 l = decide (x = o.length ∧ y = a.length ∧ z = b.length) by rw [← HQ.out, List.drop_of_length_le (by omega), rightR])
    by_cases hx : x = o.length
    ·have b1 : ((x : Int) == (o.length : Int)) = true := beq_iff_eq.2 (by omega)
     by_cases hy : y = a.length
     ·have b2 : ((y : Int) == (a.length : Int)) = true := beq_iff_eq.2 (by omega)
      by_cases hz : z = b.length
      ·have b3 : ((z : Int) == (b.length : Int)) = true := beq_iff_eq.2 (by omega)
       have HD := Aside0.mk (show rightR o a b 0 0 0 l = true by rw [HE.out]; exact decide_eq_true ⟨hx, hy, hz⟩)
       clear hx hy hz hlt
       go_wp2
       repeat (go_quiet (fail); try go_wp2)
       go_ret
       exact ⟨by rw [HD.out]; rfl, by repeat (first | exact HB.out | apply pw_below_drewN | apply below_drew1)⟩
      ·have b3 : ((z : Int) == (b.length : Int)) = false := beq_eq_false_iff_ne.2 (by omega)
       have HD := Aside0.mk (show rightR o a b 0 0 0 l = false by rw [HE.out]; exact decide_eq_false (fun h => hz h.2.2))
       clear hx hy hz hlt
       go_wp2
       repeat (go_quiet (fail); try go_wp2)
       go_ret
       exact ⟨by rw [HD.out]; rfl, by repeat (first | exact HB.out | apply pw_below_drewN | apply below_drew1)⟩
     ·have b2 : ((y : Int) == (a.length : Int)) = false := beq_eq_false_iff_ne.2 (by omega)
      have HD := Aside0.mk (show rightR o a b 0 0 0 l = false by rw [HE.out]; exact decide_eq_false (fun h => hy h.2.1))
      clear hx hy hlt
      go_wp2
      repeat (go_quiet (fail); try go_wp2)
      go_ret
      exact ⟨by rw [HD.out]; rfl, by repeat (first | exact HB.out | apply pw_below_drewN | apply below_drew1)⟩
    ·have b1 : ((x : Int) == (o.length : Int)) = false := beq_eq_false_iff_ne.2 (by omega)
     have HD := Aside0.mk (show rightR o a b 0 0 0 l = false by rw [HE.out]; exact decide_eq_false (fun h => hx h.1))
     clear hx hlt
     go_wp2
     repeat (go_quiet (fail); try go_wp2)
     go_ret
     exact ⟨by rw [HD.out]; rfl, by repeat (first | exact HB.out | apply pw_below_drewN | apply below_drew1)⟩
 ·rw [if_neg hok] at h; cases h
end Go.Proofs.Ytnmphfelebkaiaa.Pr
-- shrunk
/-
Several plain texts in one.
-/
namespace Go.Proofs.Ytnmphfelebkaiaa.Pr
open Go.RowKit Go.Proofs.YtnmphfelebkaiaaW.PrintWords Go.Proofs.YtnmphfelebkaiaaW.PrintLast Go.Proofs.YtnmphfelebkaiaaW.PrintMore
set_option linter.unusedVariables false
set_option linter.unusedSimpArgs false
def playFrom (a : List ByteArray) (t : Nat) : List Ed → List ByteArray
 | [] => a.drop t
 | e :: l => (a.take e.f0.toNat).drop t ++ e.f2 ++ playFrom a (e.f0 + e.f1).toNat l
theorem okFrom_cons {fr many : Int} {e : Ed} {l : List Ed} (h : okFrom fr many (e :: l) = true) :
  fr ≤ e.f0 ∧ 0 ≤ e.f1 ∧ e.f0 ≤ many ∧ e.f1 ≤ many - e.f0 ∧ ¬ (e.f1 = 0 ∧ e.f2 = []) ∧ okFrom (e.f0 + e.f1 + 1) many l = true := by
 simp only [okFrom, Bool.and_eq_true, decide_eq_true_eq] at h
 exact ⟨h.1.1, h.1.2.1, h.1.2.2.1, h.1.2.2.2.1, h.1.2.2.2.2, h.2⟩
end Go.Proofs.Ytnmphfelebkaiaa.Pr
-- shrunk
/-
Playing and turning edits: plain facts on lists, no program in sight.
-/
namespace Go.Proofs.Ytnmphfelebkaiaa.Pr
set_option linter.unusedVariables false
set_option linter.unusedSimpArgs false
def playR (s : List ByteArray) (t : Int) : List Ed → List ByteArray
 | [] => s
 | e :: l => s.take (e.f0 - t).toNat ++ e.f2 ++ playR (s.drop (e.f0 - t + e.f1).toNat) (e.f0 + e.f1) l
theorem playFrom_R (a : List ByteArray) : ∀ (l : List Ed) (fr : Int) (t : Nat), (t : Int) ≤ fr → okFrom fr a.length l = true → playFrom a t l = playR (a.drop t) t l
 | [], fr, t, h, ho => rfl
 | e :: l, fr, t, h, ho => by
  obtain ⟨c1, c2, c3, c4, _, ho'⟩ := okFrom_cons ho
  simp only [playFrom, playR]
  rw [playFrom_R a l _ (e.f0 + e.f1).toNat (by omega) ho', List.drop_take, List.drop_drop, Int.toNat_of_nonneg (by omega), show e.f0.toNat - t = (e.f0 - (t : Int)).toNat by omega, show t + (e.f0 - (t : Int) + e.f1).toNat = (e.f0 + e.f1).toNat by omega]
end Go.Proofs.Ytnmphfelebkaiaa.Pr
-- shrunk
/-
What is between two lists: it is right, played it is the other one; its size: plain facts on lists.
-/
namespace Go.Proofs.Ytnmphfelebkaiaa.Pr
set_option linter.unusedVariables false
set_option linter.unusedSimpArgs false
def edG : Option Ed → Int → List Step → List Ed
 | none, _, [] => []
 | some e, _, [] => [e]
 | none, t, .keep :: r => edG none (t + 1) r
 | some e, t, .keep :: r => e :: edG none (t + 1) r
 | none, t, .del :: r => edG (some ⟨t, 1, []⟩) (t + 1) r
 | some e, t, .del :: r => edG (some ⟨e.f0, e.f1 + 1, e.f2⟩) (t + 1) r
 | none, t, .ins s :: r => edG (some ⟨t, 0, [s]⟩) t r
 | some e, t, .ins s :: r => edG (some ⟨e.f0, e.f1, e.f2 ++ [s]⟩) t r
theorem edLast_snoc (out : List Ed) (e : Ed) : edLast (out ++ [e]) = e := by simp [edLast]
theorem addDel_snoc (out : List Ed) (e : Ed) : addDel (out ++ [e]) = out ++ [⟨e.f0, e.f1 + 1, e.f2⟩] := by
 rw [addDel, edLast_snoc]
 simp
theorem addIns_snoc (s : ByteArray) (out : List Ed) (e : Ed) : addIns s (out ++ [e]) = out ++ [⟨e.f0, e.f1, e.f2 ++ [s]⟩] := by
 rw [addIns, edLast_snoc]
 simp
theorem edits_edG : ∀ (r : List Step) (t : Int) (out : List Ed), edits t false out r = out ++ edG none t r ∧ ∀ e, edits t true (out ++ [e]) r = out ++ edG (some e) t r
 | [], t, out => ⟨by simp [edits, edG], fun e => by simp [edits, edG]⟩
 | .keep :: r, t, out => ⟨by rw [edits, edG]; exact (edits_edG r (t + 1) out).1, fun e => by rw [edits, edG, (edits_edG r (t + 1) (out ++ [e])).1]; simp⟩
 | .del :: r, t, out => ⟨by
   rw [edits, edG, opened, if_neg (by simp), addDel_snoc]
   exact (edits_edG r (t + 1) out).2 _, fun e => by
   rw [edits, edG, opened, if_pos rfl, addDel_snoc]
   exact (edits_edG r (t + 1) out).2 _⟩
 | .ins s :: r, t, out => ⟨by
   rw [edits, edG, opened, if_neg (by simp), addIns_snoc]
   exact (edits_edG r t out).2 _, fun e => by
   rw [edits, edG, opened, if_pos rfl, addIns_snoc]
   exact (edits_edG r t out).2 _⟩
def app : List Step → List ByteArray → List ByteArray
 | [], s => s
 | .keep :: r, x :: s => x :: app r s
 | .keep :: r, [] => app r []
 | .del :: r, _ :: s => app r s
 | .del :: r, [] => app r []
 | .ins y :: r, s => y :: app r s
def cnt : List Step → Nat
 | [] => 0
 | .keep :: r => cnt r + 1
 | .del :: r => cnt r + 1
 | .ins _ :: r => cnt r
def chg : List Step → Nat
 | [] => 0
 | .keep :: r => chg r
 | .del :: r => chg r + 1
 | .ins _ :: r => chg r + 1
theorem play_edG : ∀ (r : List Step) (pre s : List ByteArray) (t : Int), cnt r ≤ s.length →
  playR (pre ++ s) t (edG none (t + pre.length) r) = pre ++ app r s ∧
  ∀ (e : Ed) (D : List ByteArray), e.f0 = t + pre.length → e.f1 = D.length → playR (pre ++ D ++ s) t (edG (some e) (t + pre.length + D.length) r) = pre ++ e.f2 ++ app r s
 | [], pre, s, t, h => ⟨by simp [edG, playR, app], fun e D h0 h1 => by
   simp only [edG, playR, app]
   rw [show (e.f0 - t).toNat = pre.length by omega, show (e.f0 - t + e.f1).toNat = (pre ++ D).length by rw [List.length_append]; omega, List.drop_left, List.append_assoc pre D s, List.take_left]⟩
 | .keep :: r, pre, [], t, h => by simp [cnt] at h
 | .keep :: r, pre, x :: s, t, h => by
  have hc : cnt r ≤ s.length := by simp [cnt] at h; exact h
  refine ⟨?_, fun e D h0 h1 => ?_⟩
  ·have h2 := (play_edG r (pre ++ [x]) s t hc).1
   rw [List.length_append, List.length_singleton] at h2
   rw [edG, app, show t + (pre.length : Int) + 1 = t + ((pre.length + 1 : Nat) : Int) by omega]
   simpa using h2
  ·rw [edG, app]
   simp only [playR]
   have h2 := (play_edG r [x] s (e.f0 + e.f1) hc).1
   rw [show (e.f0 - t).toNat = pre.length by omega, show (e.f0 - t + e.f1).toNat = (pre ++ D).length by rw [List.length_append]; omega, List.drop_left, List.append_assoc pre D, List.take_left]
   rw [show t + (pre.length : Int) + (D.length : Int) + 1 = e.f0 + e.f1 + (([x] : List ByteArray).length : Int) by simp; omega]
   have h3 : playR (x :: s) (e.f0 + e.f1) (edG none (e.f0 + e.f1 + (([x] : List ByteArray).length : Int)) r) = x :: app r s := by simpa using h2
   rw [h3]
 | .del :: r, pre, [], t, h => by simp [cnt] at h
 | .del :: r, pre, x :: s, t, h => by
  have hc : cnt r ≤ s.length := by simp [cnt] at h; exact h
  refine ⟨?_, fun e D h0 h1 => ?_⟩
  ·have h2 := (play_edG r pre s t hc).2 ⟨t + pre.length, 1, []⟩ [x] rfl (by simp)
   rw [edG, app]
   simpa using h2
  ·have h2 := (play_edG r pre s t hc).2 ⟨e.f0, e.f1 + 1, e.f2⟩ (D ++ [x]) h0 (by simp [h1])
   rw [edG, app]
   rw [List.length_append, List.length_singleton] at h2
   rw [show t + (pre.length : Int) + (D.length : Int) + 1 = t + (pre.length : Int) + ((D.length + 1 : Nat) : Int) by omega]
   simpa using h2
 | .ins y :: r, pre, s, t, h => by
  have hc : cnt r ≤ s.length := by simpa [cnt] using h
  refine ⟨?_, fun e D h0 h1 => ?_⟩
  ·have h2 := (play_edG r pre s t hc).2 ⟨t + pre.length, 0, [y]⟩ [] rfl (by simp)
   rw [edG, app]
   simpa using h2
  ·have h2 := (play_edG r pre s t hc).2 ⟨e.f0, e.f1, e.f2 ++ [y]⟩ D h0 h1
   rw [edG, app]
   simpa using h2
theorem ok_edG (many : Int) : ∀ (r : List Step) (fr t : Int), t + cnt r ≤ many →
  (fr ≤ t → okFrom fr many (edG none t r) = true) ∧ ∀ e : Ed, fr ≤ e.f0 → 0 ≤ e.f1 → ¬ (e.f1 = 0 ∧ e.f2 = []) → e.f0 + e.f1 = t → okFrom fr many (edG (some e) t r) = true
 | [], fr, t, h => ⟨fun _ => rfl, fun e h0 h1 h2 h3 => by
   simp only [cnt] at h
   simp only [edG, okFrom, Bool.and_true]
   exact decide_eq_true ⟨h0, h1, by omega, by omega, h2⟩⟩
 | .keep :: r, fr, t, h => ⟨fun hf => by
   simp only [cnt] at h
   rw [edG]
   exact (ok_edG many r fr (t + 1) (by push_cast at h; omega)).1 (by omega), fun e h0 h1 h2 h3 => by
   simp only [cnt] at h
   simp only [edG, okFrom]
   rw [decide_eq_true ⟨h0, h1, by push_cast at h; omega, by push_cast at h; omega, h2⟩, Bool.true_and]
   exact (ok_edG many r _ (t + 1) (by push_cast at h; omega)).1 (by omega)⟩
 | .del :: r, fr, t, h => ⟨fun hf => by
   simp only [cnt] at h
   rw [edG]
   exact (ok_edG many r fr (t + 1) (by push_cast at h; omega)).2 ⟨t, 1, []⟩ hf (by simp) (by simp) rfl, fun e h0 h1 h2 h3 => by
   simp only [cnt] at h
   rw [edG]
   exact (ok_edG many r fr (t + 1) (by push_cast at h; omega)).2 ⟨e.f0, e.f1 + 1, e.f2⟩ h0 (by show 0 ≤ e.f1 + 1; omega) (fun hh => by have : e.f1 + 1 = 0 := hh.1; omega) (by show e.f0 + (e.f1 + 1) = t + 1; omega)⟩
 | .ins y :: r, fr, t, h => ⟨fun hf => by
   simp only [cnt] at h
   rw [edG]
   exact (ok_edG many r fr t h).2 ⟨t, 0, [y]⟩ hf (by simp) (by simp) (by simp), fun e h0 h1 h2 h3 => by
   simp only [cnt] at h
   rw [edG]
   exact (ok_edG many r fr t h).2 ⟨e.f0, e.f1, e.f2 ++ [y]⟩ h0 h1 (by simp) h3⟩
theorem size_edG : ∀ (r : List Step) (t : Int), sizeE (edG none t r) = chg r ∧ ∀ e : Ed, 0 ≤ e.f1 → sizeE (edG (some e) t r) = e.f1 + e.f2.length + chg r
 | [], t => ⟨by simp [edG, sizeE, chg], fun e h => by simp only [edG, sizeE, chg]; omega⟩
 | .keep :: r, t => ⟨by rw [edG, chg]; exact (size_edG r _).1, fun e h => by rw [edG, chg, sizeE, (size_edG r _).1]; omega⟩
 | .del :: r, t => ⟨by rw [edG, chg, (size_edG r _).2 _ (by simp)]; simp; omega, fun e h => by rw [edG, chg, (size_edG r _).2 _ (by show 0 ≤ e.f1 + 1; omega)]; push_cast; omega⟩
 | .ins y :: r, t => ⟨by rw [edG, chg, (size_edG r _).2 _ (by simp)]; simp; omega, fun e h => by rw [edG, chg, (size_edG r _).2 ⟨e.f0, e.f1, e.f2 ++ [y]⟩ h]; simp; omega⟩
theorem steps_app (E : List ByteArray) : ∀ x y : List ByteArray, app (steps x y) (x ++ E) = y ++ E ∧ cnt (steps x y) = x.length
 | [], [] => ⟨by simp [steps, app], by simp [steps, cnt]⟩
 | [], y :: ys => by
  have h := steps_app E [] ys
  rw [steps]
  exact ⟨by rw [app, h.1]; rfl, by rw [cnt, h.2]⟩
 | x :: xs, [] => by
  have h := steps_app E xs []
  rw [steps]
  exact ⟨by rw [List.cons_append, app, h.1], by rw [cnt, h.2]; rfl⟩
 | x :: xs, y :: ys => by
  rw [steps]
  by_cases hxy : x = y
  ·have h := steps_app E xs ys
   rw [if_pos hxy]
   exact ⟨by rw [List.cons_append, app, h.1, hxy]; rfl, by rw [cnt, h.2]; rfl⟩
  ·rw [if_neg hxy]
   split
   ·have h := steps_app E xs (y :: ys)
    exact ⟨by rw [List.cons_append, app, h.1], by rw [cnt, h.2]; rfl⟩
   ·have h := steps_app E (x :: xs) ys
    exact ⟨by rw [app, h.1]; rfl, by rw [cnt, h.2]⟩
termination_by x y => x.length + y.length
theorem lcs_nil (x : List ByteArray) : lcsLen x [] = 0 := by cases x <;> simp [lcsLen]
theorem nil_lcs (y : List ByteArray) : lcsLen [] y = 0 := by simp [lcsLen]
theorem steps_chg : ∀ x y : List ByteArray, chg (steps x y) + 2 * lcsLen x y = x.length + y.length
 | [], [] => by simp [steps, chg, lcsLen]
 | [], y :: ys => by
  have h := steps_chg [] ys
  rw [steps, chg, nil_lcs]
  rw [nil_lcs] at h
  simp at h ⊢
  omega
 | x :: xs, [] => by
  have h := steps_chg xs []
  rw [steps, chg, lcs_nil]
  rw [lcs_nil] at h
  simp at h ⊢
  omega
 | x :: xs, y :: ys => by
  rw [steps, lcsLen]
  by_cases hxy : x = y
  ·have h := steps_chg xs ys
   rw [if_pos hxy, if_pos hxy, chg]
   simp only [List.length_cons]
   omega
  ·rw [if_neg hxy, if_neg hxy]
   have h1 := steps_chg xs (y :: ys)
   have h2 := steps_chg (x :: xs) ys
   simp only [List.length_cons] at h1 h2 ⊢
   split
   ·rw [chg]; omega
   ·rw [chg]; omega
termination_by x y => x.length + y.length
theorem commonE_le : ∀ a b : List ByteArray, common a b ≤ a.length ∧ common a b ≤ b.length ∧ a.take (common a b) = b.take (common a b)
 | [], b => by simp [common]
 | x :: xs, [] => by simp [common]
 | x :: xs, y :: ys => by
  rw [common]
  by_cases h : x = y
  ·have ih := commonE_le xs ys
   rw [if_pos h]
   exact ⟨by simp; exact ih.1, by simp; exact ih.2.1, by rw [List.take_succ_cons, List.take_succ_cons, ih.2.2, h]⟩
  ·rw [if_neg h]; simp
theorem between_split (a b : List ByteArray) : ∃ F x y E, a = F ++ (x ++ E) ∧ b = F ++ (y ++ E) ∧ between a b = midEdits (F.length : Int) x y := by
 obtain ⟨h1, h2, h3⟩ := commonE_le a b
 generalize ha : a.drop (common a b) = a' 
 generalize hb : b.drop (common a b) = b'
 obtain ⟨g1, g2, g3⟩ := commonE_le a'.reverse b'.reverse
 rw [List.length_reverse] at g1 g2
 have hE : a'.drop (a'.length - common a'.reverse b'.reverse) = b'.drop (b'.length - common a'.reverse b'.reverse) := by
  apply List.reverse_inj.1
  rw [List.reverse_drop, List.reverse_drop, show a'.length - (a'.length - common a'.reverse b'.reverse) = common a'.reverse b'.reverse by omega, show b'.length - (b'.length - common a'.reverse b'.reverse) = common a'.reverse b'.reverse by omega]
  exact g3
 refine ⟨a.take (common a b), a'.take (a'.length - common a'.reverse b'.reverse), b'.take (b'.length - common a'.reverse b'.reverse), a'.drop (a'.length - common a'.reverse b'.reverse), ?_, ?_, ?_⟩
 ·rw [List.take_append_drop, ← ha, List.take_append_drop]
 ·rw [hE, List.take_append_drop, h3, ← hb, List.take_append_drop]
 ·rw [between, midOf, endOf, frontOf, ha, hb, List.length_take, Nat.min_eq_left h1]
theorem playR_block (pre x y E : List ByteArray) : playR (pre ++ (x ++ E)) 0 [⟨(pre.length : Int), (x.length : Int), y⟩] = pre ++ (y ++ E) := by
 simp only [playR]
 rw [show ((pre.length : Int) - 0).toNat = pre.length by omega, show ((pre.length : Int) - 0 + (x.length : Int)).toNat = (pre ++ x).length by rw [List.length_append]; omega, List.take_left, ← List.append_assoc pre x, List.drop_left, List.append_assoc]
theorem mid_ok (F x y E : List ByteArray) : okFrom 0 ((F ++ (x ++ E)).length : Int) (midEdits (F.length : Int) x y) = true ∧ playR (F ++ (x ++ E)) 0 (midEdits (F.length : Int) x y) = F ++ (y ++ E) := by
 rw [midEdits]
 by_cases c1 : x = [] ∧ y = []
 ·rw [if_pos c1]
  exact ⟨rfl, by rw [c1.1, c1.2]; rfl⟩
 ·rw [if_neg c1]
  by_cases c2 : x = [] ∨ y = [] ∨ 65536 < x.length * y.length
  ·rw [if_pos c2]
   refine ⟨?_, playR_block F x y E⟩
   simp only [okFrom, Bool.and_true, List.length_append]
   refine decide_eq_true ⟨by omega, by omega, by push_cast; omega, by push_cast; omega, fun h => c1 ⟨List.eq_nil_of_length_eq_zero (by have := h.1; omega), h.2⟩⟩
  ·rw [if_neg c2, (edits_edG _ _ []).1, List.nil_append]
   have hs := steps_app E x y
   refine ⟨(ok_edG _ _ 0 _ (by rw [hs.2, List.length_append, List.length_append]; push_cast; omega)).1 (by omega), ?_⟩
   have h := (play_edG (steps x y) F (x ++ E) 0 (by rw [hs.2, List.length_append]; omega)).1
   rw [hs.1, Int.zero_add] at h
   exact h
theorem between_ok (a b : List ByteArray) : okFrom 0 a.length (between a b) = true ∧ playFrom a 0 (between a b) = b := by
 obtain ⟨F, x, y, E, rfl, rfl, e⟩ := between_split a b
 rw [e]
 have h := mid_ok F x y E
 refine ⟨h.1, ?_⟩
 rw [playFrom_R _ _ 0 0 (by omega) h.1, List.drop_zero]
 exact h.2
end Go.Proofs.Ytnmphfelebkaiaa.Pr
-- shrunk
/-
Longest common subsequences: what their lengths satisfy. Plain facts on lists.
-/
namespace Go.Proofs.Ytnmphfelebkaiaa.Pr
set_option linter.unusedVariables false
set_option linter.unusedSimpArgs false
open List (Sublist)
theorem lcs_has : ∀ x y : List ByteArray, ∃ s : List ByteArray, s.Sublist x ∧ s.Sublist y ∧ s.length = lcsLen x y
 | [], y => ⟨[], List.nil_sublist _, List.nil_sublist _, by simp [lcsLen]⟩
 | x :: xs, [] => ⟨[], List.nil_sublist _, List.nil_sublist _, by simp [lcsLen]⟩
 | x :: xs, y :: ys => by
  rw [lcsLen]
  by_cases h : x = y
  ·obtain ⟨s, h1, h2, h3⟩ := lcs_has xs ys
   rw [if_pos h]
   exact ⟨x :: s, h1.cons_cons x, by rw [h]; exact h2.cons_cons y, by simp [h3]⟩
  ·rw [if_neg h]
   rcases Nat.le_total (lcsLen (x :: xs) ys) (lcsLen xs (y :: ys)) with hl | hl
   ·obtain ⟨s, h1, h2, h3⟩ := lcs_has xs (y :: ys)
    exact ⟨s, h1.cons x, h2, by rw [h3]; omega⟩
   ·obtain ⟨s, h1, h2, h3⟩ := lcs_has (x :: xs) ys
    exact ⟨s, h1, h2.cons y, by rw [h3]; omega⟩
termination_by x y => x.length + y.length
theorem lcs_most : ∀ (x y s : List ByteArray), s.Sublist x → s.Sublist y → s.length ≤ lcsLen x y
 | [], y, s, h1, h2 => by rw [List.sublist_nil.1 h1]; simp
 | x :: xs, [], s, h1, h2 => by rw [List.sublist_nil.1 h2]; simp
 | x :: xs, y :: ys, s, h1, h2 => by
  rw [lcsLen]
  by_cases h : x = y
  ·rw [if_pos h]
   match s with
   | [] => simp
   | z :: s' =>
    have g1 : s'.Sublist xs := by
     have := List.Sublist.tail h1
     simpa using this
    have g2 : s'.Sublist ys := by
     have := List.Sublist.tail h2
     simpa using this
    have := lcs_most xs ys s' g1 g2
    simp only [List.length_cons]
    omega
  ·rw [if_neg h]
   cases h1 with
   | cons _ g1 =>
    have := lcs_most xs (y :: ys) s g1 h2
    omega
   | cons_cons _ g1 =>
    cases h2 with
    | cons _ g2 =>
     have := lcs_most (x :: xs) ys _ (g1.cons_cons x) g2
     omega
    | cons_cons _ g2 => exact absurd rfl h
termination_by x y => x.length + y.length
theorem lcs_unique {x y : List ByteArray} {n : Nat} (h1 : ∃ s : List ByteArray, s.Sublist x ∧ s.Sublist y ∧ s.length = n) (h2 : ∀ s : List ByteArray, s.Sublist x → s.Sublist y → s.length ≤ n) : lcsLen x y = n := by
 obtain ⟨s, a1, a2, a3⟩ := h1
 obtain ⟨t, b1, b2, b3⟩ := lcs_has x y
 have := lcs_most x y s a1 a2
 have := h2 t b1 b2
 omega
theorem lcs_reverse (x y : List ByteArray) : lcsLen x.reverse y.reverse = lcsLen x y := by
 obtain ⟨t, b1, b2, b3⟩ := lcs_has x y
 refine lcs_unique ⟨t.reverse, b1.reverse, b2.reverse, by simpa using b3⟩ (fun s h1 h2 => ?_)
 have := lcs_most x y s.reverse (by have := h1.reverse; simpa using this) (by have := h2.reverse; simpa using this)
 simpa using this
theorem lcs_front : ∀ (F x y : List ByteArray), lcsLen (F ++ x) (F ++ y) = F.length + lcsLen x y
 | [], x, y => by simp
 | f :: F, x, y => by rw [List.cons_append, List.cons_append, lcsLen, if_pos rfl, lcs_front F x y, List.length_cons]; omega
theorem lcs_end (x y E : List ByteArray) : lcsLen (x ++ E) (y ++ E) = lcsLen x y + E.length := by
 rw [← lcs_reverse, List.reverse_append, List.reverse_append, lcs_front, lcs_reverse, List.length_reverse]; omega
theorem between_size (a b : List ByteArray) (h : a.length * b.length ≤ 65536) : sizeE (between a b) + 2 * (lcsLen a b : Int) = a.length + b.length := by
 obtain ⟨F, x, y, E, rfl, rfl, e⟩ := between_split a b
 rw [e, lcs_front, lcs_end, midEdits]
 have hxy : x.length * y.length ≤ 65536 := Nat.le_trans (Nat.mul_le_mul (by simp only [List.length_append]; omega) (by simp only [List.length_append]; omega)) h
 simp only [List.length_append]
 by_cases c1 : x = [] ∧ y = []
 ·rw [if_pos c1, c1.1, c1.2]
  simp [sizeE, lcsLen]
  omega
 ·rw [if_neg c1]
  by_cases c2 : x = [] ∨ y = [] ∨ 65536 < x.length * y.length
  ·rw [if_pos c2]
   have h0 : lcsLen x y = 0 := by
    rcases c2 with c | c | c
    ·rw [c, nil_lcs]
    ·rw [c, lcs_nil]
    ·omega
   rw [h0]
   simp only [sizeE]
   push_cast
   omega
  ·rw [if_neg c2, (edits_edG _ _ []).1, List.nil_append, (size_edG _ _).1]
   have := steps_chg x y
   push_cast
   omega
end Go.Proofs.Ytnmphfelebkaiaa.Pr
-- shrunk
/-
Where the regions stand: the lines of either side behind the edits so far, cluster by cluster. Plain Lean.
-/
namespace Go.Proofs.Ytnmphfelebkaiaa.Pr
open Go.RowKit Go.Proofs.YtnmphfelebkaiaaW.PrintWords Go.Proofs.YtnmphfelebkaiaaW.PrintLast Go.Proofs.YtnmphfelebkaiaaW.PrintMore
set_option linter.unusedVariables false
set_option linter.unusedSimpArgs false
def moreE : List Ed → Int
 | [] => 0
 | e :: l => ((e.f2.length : Int) - e.f1) + moreE l
structure Sync (o a : List ByteArray) (t x : Nat) (l : List Ed) : Prop where
 ht : t ≤ o.length
 hx : x ≤ a.length
 ok : okFrom t o.length l = true
 eq : a.drop x = playR (o.drop t) t l
theorem okFrom_le {fr fr' many : Int} {l : List Ed} (h : fr' ≤ fr) (ho : okFrom fr many l = true) : okFrom fr' many l = true := by
 cases l with
 | nil => rfl
 | cons e l =>
  simp only [okFrom, Bool.and_eq_true, decide_eq_true_eq] at ho ⊢
  exact ⟨⟨by omega, ho.1.2⟩, ho.2⟩
theorem okFrom_head {fr many : Int} {e : Ed} {l : List Ed} (ho : okFrom fr many (e :: l) = true) : fr ≤ e.f0 ∧ 0 ≤ e.f1 ∧ e.f0 + e.f1 ≤ many ∧ ¬ (e.f1 = 0 ∧ e.f2 = []) ∧ okFrom (e.f0 + e.f1 + 1) many l = true := by
 simp only [okFrom, Bool.and_eq_true, decide_eq_true_eq] at ho
 exact ⟨by omega, by omega, by omega, ho.1.2.2.2.2, ho.2⟩
theorem okFrom_mem : ∀ {l : List Ed} {fr many : Int}, okFrom fr many l = true → ∀ e ∈ l, fr ≤ e.f0 ∧ 0 ≤ e.f1 ∧ e.f0 + e.f1 ≤ many
 | e0 :: l, fr, many, ho, e, he => by
  obtain ⟨h1, h2, h3, h4, h5⟩ := okFrom_head ho
  rcases List.mem_cons.1 he with rfl | he
  ·exact ⟨h1, h2, h3⟩
  ·have := okFrom_mem h5 e he
   omega
theorem Sync.gap {o a : List ByteArray} {t x : Nat} {l : List Ed} (h : Sync o a t x l) {f : Nat} (h1 : t ≤ f) (h2 : f ≤ o.length) (h3 : okFrom f o.length l = true) :
  Sync o a f (x + (f - t)) l ∧ (a.drop x).take (f - t) = (o.drop t).take (f - t) := by
 have he := h.eq
 have hl : f - t ≤ (o.drop t).length := by rw [List.length_drop]; omega
 have key : playR (o.drop t) t l = (o.drop t).take (f - t) ++ playR (o.drop f) f l := by
  have hd : o.drop f = (o.drop t).drop (f - t) := by rw [List.drop_drop]; congr 1; omega
  cases l with
  | nil => simp only [playR]; rw [hd, List.take_append_drop]
  | cons e l =>
   obtain ⟨k1, k2, k3, _⟩ := okFrom_head h3
   simp only [playR]
   rw [← List.append_assoc]
   congr 1
   ·have e1 : (e.f0 - (t : Int)).toNat = (f - t) + (e.f0 - (f : Int)).toNat := by omega
    rw [e1, List.take_add, hd, List.append_assoc]
   ·have e2 : (e.f0 - (t : Int) + e.f1).toNat = (f - t) + (e.f0 - (f : Int) + e.f1).toNat := by omega
    rw [e2, ← List.drop_drop, hd]
 have hx := h.hx
 have hlen : x + (f - t) ≤ a.length := by
  have h4 : (a.drop x).length = ((o.drop t).take (f - t) ++ playR (o.drop f) f l).length := by rw [he, key]
  rw [List.length_append, List.length_take, Nat.min_eq_left hl, List.length_drop] at h4
  omega
 have ht : (a.drop x).take (f - t) = (o.drop t).take (f - t) := by
  rw [he, key, List.take_append_of_le_length (by rw [List.length_take]; omega), List.take_take, Nat.min_self]
 refine ⟨⟨h2, hlen, h3, ?_⟩, ht⟩
 rw [← List.drop_drop, he, key, List.drop_append_of_le_length (by rw [List.length_take]; omega), List.drop_of_length_le (by rw [List.length_take]; omega), List.nil_append]
theorem Sync.take {o a : List ByteArray} : ∀ (p : List Ed) {f x : Nat} {l : List Ed} {t : Nat}, Sync o a f x (p ++ l) → (∀ e ∈ p, e.f0 + e.f1 ≤ (t : Int)) → f ≤ t → t ≤ o.length → okFrom t o.length l = true →
  ∃ y : Nat, (y : Int) = x + ((t : Int) - f) + moreE p ∧ x ≤ y ∧ Sync o a t y l ∧ (p = [] → (a.drop x).take (y - x) = (o.drop f).take (t - f))
 | [], f, x, l, t, h, _, h1, h2, h3 => by
  obtain ⟨k1, k2⟩ := h.gap h1 h2 h3
  exact ⟨x + (t - f), by simp only [moreE]; omega, by omega, k1, fun _ => by rw [show x + (t - f) - x = t - f by omega]; exact k2⟩
 | e :: p, f, x, l, t, h, hp, h1, h2, h3 => by
  obtain ⟨c1, c2, c3, c4, c5⟩ := okFrom_head h.ok
  have hte := hp e List.mem_cons_self
  obtain ⟨g, hg⟩ : ∃ g : Nat, (g : Int) = e.f0 := ⟨e.f0.toNat, by omega⟩
  obtain ⟨d, hd⟩ : ∃ d : Nat, (d : Int) = e.f1 := ⟨e.f1.toNat, by omega⟩
  obtain ⟨k1, _⟩ := h.gap (f := g) (by omega) (by omega) (by
   have := h.ok
   rw [List.cons_append] at this ⊢
   simp only [okFrom, Bool.and_eq_true, decide_eq_true_eq] at this ⊢
   exact ⟨⟨by omega, this.1.2⟩, this.2⟩)
  have he := k1.eq
  rw [List.cons_append, playR, show (e.f0 - (g : Int)).toNat = 0 by omega, List.take_zero, List.nil_append, show (e.f0 - (g : Int) + e.f1).toNat = d by omega, List.drop_drop, show e.f0 + e.f1 = ((g + d : Nat) : Int) by omega] at he
  have hx : x + (g - f) + e.f2.length ≤ a.length := by
   have h4 := congrArg List.length he
   have := k1.hx
   rw [List.length_append, List.length_drop] at h4
   omega
  have hs : Sync o a (g + d) (x + (g - f) + e.f2.length) (p ++ l) := ⟨by omega, hx, okFrom_le (by omega) c5, by
   rw [← List.drop_drop, he, List.drop_append_of_le_length (Nat.le_refl _), List.drop_length, List.nil_append]⟩
  obtain ⟨y, y1, y2, y3, _⟩ := Sync.take p hs (fun e' he' => hp e' (List.mem_cons_of_mem _ he')) (by omega) h2 h3
  exact ⟨y, by simp only [moreE]; omega, by omega, y3, fun h => by cases h⟩
structure Ate (c c' : Cl) (l0 l1 l0' l1' p0 p1 : List Ed) : Prop where
 e0 : l0 = p0 ++ l0'
 e1 : l1 = p1 ++ l1'
 m0 : c'.m0 = c.m0 + moreE p0
 m1 : c'.m1 = c.m1 + moreE p1
 h0 : c'.h0 = (c.h0 || !p0.isEmpty)
 h1 : c'.h1 = (c.h1 || !p1.isEmpty)
 f : c'.f = c.f
 t : c.t ≤ c'.t
 n0 : ∀ e ∈ p0, e.f0 + e.f1 ≤ c'.t
 n1 : ∀ e ∈ p1, e.f0 + e.f1 ≤ c'.t
 s0 : meetsE c'.t l0' = false
 s1 : meetsE c'.t l1' = false
 top : ∀ M : Int, c.t ≤ M → (∀ e ∈ p0, e.f0 + e.f1 ≤ M) → (∀ e ∈ p1, e.f0 + e.f1 ≤ M) → c'.t ≤ M
theorem hd_split {l : List Ed} (h : 0 < l.length) : l = hdE l :: l.drop 1 := by
 cases l with
 | nil => simp at h
 | cons e l => rfl
theorem absorb_ate (l0 l1 : List Ed) (c : Cl) : ∃ p0 p1, Ate c (absorb c l0 l1).1 l0 l1 (absorb c l0 l1).2.1 (absorb c l0 l1).2.2 p0 p1 := by
 generalize hn : l0.length + l1.length = n
 induction n using Nat.strongRecOn generalizing c l0 l1 with
 | _ n ih =>
  cases q0 : meetsE c.t l0 with
  | true =>
   have hl := meets_len q0
   rw [absorb_0 q0]
   obtain ⟨p0, p1, h⟩ := ih _ (by rw [← hn, List.length_drop]; omega) (l0.drop 1) l1 (take0 c (hdE l0)) rfl
   have ht : max c.t ((hdE l0).f0 + (hdE l0).f1) ≤ _ := h.t
   refine ⟨hdE l0 :: p0, p1, ⟨by rw [List.cons_append, ← h.e0]; exact hd_split hl, h.e1, ?_, h.m1, ?_, h.h1, h.f, ?_, ?_, h.n1, h.s0, h.s1, ?_⟩⟩
   ·rw [h.m0]; simp only [Pr.take0, moreE]; omega
   ·rw [h.h0]; simp [Pr.take0]
   ·omega
   ·intro e he
    rcases List.mem_cons.1 he with rfl | he
    ·omega
    ·exact h.n0 e he
   ·intro M h1 h2 h3
    refine h.top M ?_ (fun e he => h2 e (List.mem_cons_of_mem _ he)) h3
    have := h2 _ List.mem_cons_self
    simp only [Pr.take0]
    omega
  | false =>
   cases q1 : meetsE c.t l1 with
   | true =>
    have hl := meets_len q1
    rw [absorb_1 q0 q1]
    obtain ⟨p0, p1, h⟩ := ih _ (by rw [← hn, List.length_drop]; omega) l0 (l1.drop 1) (take1 c (hdE l1)) rfl
    have ht : max c.t ((hdE l1).f0 + (hdE l1).f1) ≤ _ := h.t
    refine ⟨p0, hdE l1 :: p1, ⟨h.e0, by rw [List.cons_append, ← h.e1]; exact hd_split hl, h.m0, ?_, h.h0, ?_, h.f, ?_, h.n0, ?_, h.s0, h.s1, ?_⟩⟩
    ·rw [h.m1]; simp only [Pr.take1, moreE]; omega
    ·rw [h.h1]; simp [Pr.take1]
    ·omega
    ·intro e he
     rcases List.mem_cons.1 he with rfl | he
     ·omega
     ·exact h.n1 e he
    ·intro M h1 h2 h3
     refine h.top M ?_ h2 (fun e he => h3 e (List.mem_cons_of_mem _ he))
     have := h3 _ List.mem_cons_self
     simp only [Pr.take1]
     omega
   | false =>
    rw [absorb_no q0 q1]
    exact ⟨[], [], ⟨rfl, rfl, by simp [moreE], by simp [moreE], by simp, by simp, rfl, Int.le_refl _, by simp, by simp, q0, q1, fun M h _ _ => h⟩⟩
theorem okFrom_suffix : ∀ (p : List Ed) {fr many : Int} {l : List Ed}, okFrom fr many (p ++ l) = true → okFrom fr many l = true
 | [], fr, many, l, h => h
 | e :: p, fr, many, l, h => by
  obtain ⟨h1, h2, _, _, h5⟩ := okFrom_head h
  exact okFrom_le (by omega) (okFrom_suffix p h5)
theorem okFrom_past {t fr many : Int} {l : List Ed} (h : okFrom fr many l = true) (hm : meetsE t l = false) : okFrom (t + 1) many l = true := by
 cases l with
 | nil => rfl
 | cons e l =>
  have h1 : ¬ e.f0 ≤ t := by simpa [meetsE, hdE] using hm
  simp only [okFrom, Bool.and_eq_true, decide_eq_true_eq] at h ⊢
  exact ⟨⟨by omega, h.1.2⟩, h.2⟩
theorem okFrom_hd {t many : Int} {l : List Ed} (h : okFrom t many l = true) {f : Int} (hf : 0 < l.length → f ≤ (hdE l).f0) : okFrom f many l = true := by
 cases l with
 | nil => rfl
 | cons e l =>
  have h1 := hf (by simp)
  have h2 : hdE (e :: l) = e := rfl
  rw [h2] at h1
  simp only [okFrom, Bool.and_eq_true, decide_eq_true_eq] at h ⊢
  exact ⟨⟨by omega, h.1.2⟩, h.2⟩
theorem okFrom_hd_b {t many : Int} {l : List Ed} (h : okFrom t many l = true) (h0 : 0 < l.length) : t ≤ (hdE l).f0 ∧ (hdE l).f0 ≤ many := by
 cases l with
 | nil => simp at h0
 | cons e l =>
  obtain ⟨h1, h2, h3, _⟩ := okFrom_head h
  have h4 : hdE (e :: l) = e := rfl
  rw [h4]
  omega
theorem start_spec {t many : Int} {l0 l1 : List Ed} (h0 : okFrom t many l0 = true) (h1 : okFrom t many l1 = true) (hl : 0 < l0.length + l1.length) :
  t ≤ (startC l0 l1).f ∧ (startC l0 l1).f ≤ many ∧ okFrom (startC l0 l1).f many l0 = true ∧ okFrom (startC l0 l1).f many l1 = true := by
 cases hs : side1 l0 l1 with
 | true =>
  have e : (startC l0 l1).f = (hdE l1).f0 := by simp only [startC, if_pos hs]
  simp only [side1, Bool.or_eq_true, Bool.and_eq_true, decide_eq_true_eq] at hs
  have hb := okFrom_hd_b h1 (by omega)
  rw [e]
  exact ⟨hb.1, hb.2, okFrom_hd h0 (fun h => by omega), okFrom_hd h1 (fun _ => Int.le_refl _)⟩
 | false =>
  have e : (startC l0 l1).f = (hdE l0).f0 := by simp only [startC, hs]; rfl
  simp only [side1, Bool.or_eq_false_iff, Bool.and_eq_false_iff, decide_eq_false_iff_not] at hs
  have hb := okFrom_hd_b h0 (by omega)
  rw [e]
  exact ⟨hb.1, hb.2, okFrom_hd h0 (fun _ => Int.le_refl _), okFrom_hd h1 (fun h => by omega)⟩
structure Inv (o a b : List ByteArray) (s : Rs) (l0 l1 : List Ed) (t x y : Nat) : Prop where
 at_ : s.at_ = (t : Int)
 so : s.last.f1.f0 + s.last.f1.f1 = (t : Int)
 sa : s.last.f2.f0 + s.last.f2.f1 = (x : Int)
 sb : s.last.f3.f0 + s.last.f3.f1 = (y : Int)
 po : 0 ≤ s.last.f1.f0 ∧ 0 ≤ s.last.f1.f1
 pa : 0 ≤ s.last.f2.f0 ∧ 0 ≤ s.last.f2.f1
 pb : 0 ≤ s.last.f3.f0 ∧ 0 ≤ s.last.f3.f1
 A : Sync o a t x l0
 B : Sync o b t y l1
structure Rnd (o a b : List ByteArray) (s : Rs) (l0 l1 : List Ed) (t x y : Nat) (c : Cl) (l0' l1' p0 p1 : List Ed) (f x1 y1 t2 x2 y2 : Nat) : Prop where
 ate : Ate (startC l0 l1) c l0 l1 l0' l1' p0 p1
 cf : c.f = (f : Int)
 ct : c.t = (t2 : Int)
 m0 : c.m0 = moreE p0
 m1 : c.m1 = moreE p1
 h0 : c.h0 = !p0.isEmpty
 h1 : c.h1 = !p1.isEmpty
 tf : t ≤ f
 ft : f ≤ t2
 ex1 : x1 = x + (f - t)
 ey1 : y1 = y + (f - t)
 ex2 : (x2 : Int) = x1 + ((t2 : Int) - f) + moreE p0
 ey2 : (y2 : Int) = y1 + ((t2 : Int) - f) + moreE p1
 lx : x1 ≤ x2
 ly : y1 ≤ y2
 ga : (a.drop x).take (f - t) = (o.drop t).take (f - t)
 gb : (b.drop y).take (f - t) = (o.drop t).take (f - t)
 na : p0 = [] → (a.drop x1).take (x2 - x1) = (o.drop f).take (t2 - f)
 nb : p1 = [] → (b.drop y1).take (y2 - y1) = (o.drop f).take (t2 - f)
 A2 : Sync o a t2 x2 l0'
 B2 : Sync o b t2 y2 l1'
 k0 : okFrom (t2 + 1) o.length l0' = true
 k1 : okFrom (t2 + 1) o.length l1' = true
 f0 : okFrom f o.length l0 = true
 f1 : okFrom f o.length l1 = true
 some_ : p0 ≠ [] ∨ p1 ≠ []
 less : l0'.length + l1'.length < l0.length + l1.length
theorem Inv.round {o a b : List ByteArray} {s : Rs} {l0 l1 : List Ed} {t x y : Nat} (h : Inv o a b s l0 l1 t x y) (hl : 0 < l0.length + l1.length) :
  ∃ p0 p1 f x1 y1 t2 x2 y2, Rnd o a b s l0 l1 t x y (absorb (startC l0 l1) l0 l1).1 (absorb (startC l0 l1) l0 l1).2.1 (absorb (startC l0 l1) l0 l1).2.2 p0 p1 f x1 y1 t2 x2 y2 := by
 obtain ⟨p0, p1, hate⟩ := absorb_ate l0 l1 (startC l0 l1)
 have hlt := start_lt l0 l1 hl
 obtain ⟨s1, s2, s3, s4⟩ := start_spec h.A.ok h.B.ok hl
 have hst : (startC l0 l1).t = (startC l0 l1).f := rfl
 obtain ⟨f, hf⟩ : ∃ f : Nat, (f : Int) = (startC l0 l1).f := ⟨(startC l0 l1).f.toNat, by omega⟩
 rw [← hf] at s1 s2 s3 s4
 generalize hR : absorb (startC l0 l1) l0 l1 = R at hate hlt ⊢
 obtain ⟨c, l0', l1'⟩ := R
 simp only at hate hlt ⊢
 have hct : c.t ≤ o.length := hate.top _ (by rw [hst, ← hf]; exact s2) (fun e he => (okFrom_mem h.A.ok e (by rw [hate.e0]; exact List.mem_append_left _ he)).2.2) (fun e he => (okFrom_mem h.B.ok e (by rw [hate.e1]; exact List.mem_append_left _ he)).2.2)
 have htl := hate.t
 rw [hst, ← hf] at htl
 obtain ⟨t2, ht2⟩ : ∃ t2 : Nat, (t2 : Int) = c.t := ⟨c.t.toNat, by omega⟩
 obtain ⟨gA, ga⟩ := h.A.gap (f := f) (by omega) (by omega) s3
 obtain ⟨gB, gb⟩ := h.B.gap (f := f) (by omega) (by omega) s4
 have k0 : okFrom (t2 + 1) o.length l0' = true := by
  rw [ht2]
  exact okFrom_past (okFrom_suffix p0 (by rw [← hate.e0]; exact s3)) hate.s0
 have k1 : okFrom (t2 + 1) o.length l1' = true := by
  rw [ht2]
  exact okFrom_past (okFrom_suffix p1 (by rw [← hate.e1]; exact s4)) hate.s1
 obtain ⟨x2, ex2, lx, A2, na⟩ := Sync.take p0 (l := l0') (t := t2) (by rw [← hate.e0]; exact gA) (fun e he => by rw [ht2]; exact hate.n0 e he) (by omega) (by omega) (okFrom_le (by omega) k0)
 obtain ⟨y2, ey2, ly, B2, nb⟩ := Sync.take p1 (l := l1') (t := t2) (by rw [← hate.e1]; exact gB) (fun e he => by rw [ht2]; exact hate.n1 e he) (by omega) (by omega) (okFrom_le (by omega) k1)
 have hm0 := hate.m0
 have hm1 := hate.m1
 have hh0 := hate.h0
 have hh1 := hate.h1
 have hff := hate.f
 have z0 : (startC l0 l1).m0 = 0 := rfl
 have z1 : (startC l0 l1).m1 = 0 := rfl
 have z2 : (startC l0 l1).h0 = false := rfl
 have z3 : (startC l0 l1).h1 = false := rfl
 rw [z0] at hm0
 rw [z1] at hm1
 rw [z2, Bool.false_or] at hh0
 rw [z3, Bool.false_or] at hh1
 refine ⟨p0, p1, f, _, _, t2, x2, y2, ⟨hate, by rw [hff, hf], ht2.symm, by omega, by omega, hh0, hh1, by omega, by omega, rfl, rfl, ex2, ey2, lx, ly, ga, gb, na, nb, A2, B2, k0, k1, s3, s4, ?_, hlt⟩⟩
 have e0 := congrArg List.length hate.e0
 have e1 := congrArg List.length hate.e1
 rw [List.length_append] at e0 e1
 by_cases hp : p0 = []
 ·right
  intro hq
  rw [hp] at e0
  rw [hq] at e1
  simp at e0 e1
  omega
 ·exact .inl hp
theorem Rnd.gapped {o a b : List ByteArray} {s : Rs} {l0 l1 : List Ed} {t x y : Nat} {c : Cl} {l0' l1' p0 p1 : List Ed} {f x1 y1 t2 x2 y2 : Nat} (h : Inv o a b s l0 l1 t x y) (R : Rnd o a b s l0 l1 t x y c l0' l1' p0 p1 f x1 y1 t2 x2 y2) :
  (gapR s c).last.f1.f0 + (gapR s c).last.f1.f1 = (f : Int) ∧ (gapR s c).last.f2.f0 + (gapR s c).last.f2.f1 = (x1 : Int) ∧ (gapR s c).last.f3.f0 + (gapR s c).last.f3.f1 = (y1 : Int) ∧
  (0 ≤ (gapR s c).last.f1.f0 ∧ 0 ≤ (gapR s c).last.f1.f1) ∧ (0 ≤ (gapR s c).last.f2.f0 ∧ 0 ≤ (gapR s c).last.f2.f1) ∧ (0 ≤ (gapR s c).last.f3.f0 ∧ 0 ≤ (gapR s c).last.f3.f1) ∧
  (t < f → gapR s c = ⟨⟨0, ⟨(t : Int), ((f - t : Nat) : Int)⟩, ⟨(x : Int), ((f - t : Nat) : Int)⟩, ⟨(y : Int), ((f - t : Nat) : Int)⟩⟩, s.out ++ [⟨0, ⟨(t : Int), ((f - t : Nat) : Int)⟩, ⟨(x : Int), ((f - t : Nat) : Int)⟩, ⟨(y : Int), ((f - t : Nat) : Int)⟩⟩], s.at_⟩) ∧ (¬ t < f → gapR s c = s) := by
 have e1 := h.at_
 have e2 := R.cf
 have e3 := R.tf
 have e4 := R.ex1
 have e5 := R.ey1
 by_cases hg : t < f
 ·have e6 : (c.f - s.at_) = ((f - t : Nat) : Int) := by omega
  have hgap : gapR s c = ⟨⟨0, ⟨(t : Int), ((f - t : Nat) : Int)⟩, ⟨(x : Int), ((f - t : Nat) : Int)⟩, ⟨(y : Int), ((f - t : Nat) : Int)⟩⟩, s.out ++ [⟨0, ⟨(t : Int), ((f - t : Nat) : Int)⟩, ⟨(x : Int), ((f - t : Nat) : Int)⟩, ⟨(y : Int), ((f - t : Nat) : Int)⟩⟩], s.at_⟩ := by
   rw [gapR, if_pos (by omega), addR, h.so, h.sa, h.sb, e6, Int.add_zero]
  refine ⟨?_, ?_, ?_, ?_, ?_, ?_, fun _ => hgap, fun h => absurd hg h⟩ <;> rw [hgap] <;> simp only <;> omega
 ·have hgap : gapR s c = s := by rw [gapR, if_neg (by omega)]
  have h1 := h.so
  have h2 := h.sa
  have h3 := h.sb
  refine ⟨?_, ?_, ?_, ?_, ?_, ?_, fun h => absurd h hg, fun _ => hgap⟩ <;> rw [hgap]
  ·omega
  ·omega
  ·omega
  ·exact h.po
  ·exact h.pa
  ·exact h.pb
theorem Rnd.reg {o a b : List ByteArray} {s : Rs} {l0 l1 : List Ed} {t x y : Nat} {c : Cl} {l0' l1' p0 p1 : List Ed} {f x1 y1 t2 x2 y2 : Nat} (h : Inv o a b s l0 l1 t x y) (R : Rnd o a b s l0 l1 t x y c l0' l1' p0 p1 f x1 y1 t2 x2 y2) :
  addR (gapR s c).last (c.t - c.f) c.m0 c.m1 = ⟨0, ⟨(f : Int), ((t2 - f : Nat) : Int)⟩, ⟨(x1 : Int), ((x2 - x1 : Nat) : Int)⟩, ⟨(y1 : Int), ((y2 - y1 : Nat) : Int)⟩⟩ := by
 obtain ⟨g1, g2, g3, _⟩ := R.gapped h
 have e1 := R.cf
 have e2 := R.ct
 have e3 := R.m0
 have e4 := R.m1
 have e5 := R.ex2
 have e6 := R.ey2
 have e7 := R.lx
 have e8 := R.ly
 have e9 := R.ft
 rw [addR, g1, g2, g3, show c.t - c.f = ((t2 - f : Nat) : Int) by omega, show ((t2 - f : Nat) : Int) + c.m0 = ((x2 - x1 : Nat) : Int) by omega, show ((t2 - f : Nat) : Int) + c.m1 = ((y2 - y1 : Nat) : Int) by omega]
def regN (k : Int) (f t x1 x2 y1 y2 : Nat) : S32 := ⟨k, ⟨(f : Int), ((t - f : Nat) : Int)⟩, ⟨(x1 : Int), ((x2 - x1 : Nat) : Int)⟩, ⟨(y1 : Int), ((y2 - y1 : Nat) : Int)⟩⟩
theorem Rnd.step {o a b : List ByteArray} {s : Rs} {l0 l1 : List Ed} {t x y : Nat} {c : Cl} {l0' l1' p0 p1 : List Ed} {f x1 y1 t2 x2 y2 : Nat} (h : Inv o a b s l0 l1 t x y) (R : Rnd o a b s l0 l1 t x y c l0' l1' p0 p1 f x1 y1 t2 x2 y2) :
  stepR a b s c = ⟨regN 0 f t2 x1 x2 y1 y2, (gapR s c).out ++ [regN (kindP c ((a.drop x1).take (x2 - x1)) ((b.drop y1).take (y2 - y1))) f t2 x1 x2 y1 y2], (t2 : Int)⟩ := by
 simp only [stepR]
 rw [R.reg h, R.ct]
 simp only [cutP, Int.toNat_natCast, kinded, regN]
theorem Rnd.inv {o a b : List ByteArray} {s : Rs} {l0 l1 : List Ed} {t x y : Nat} {c : Cl} {l0' l1' p0 p1 : List Ed} {f x1 y1 t2 x2 y2 : Nat} (h : Inv o a b s l0 l1 t x y) (R : Rnd o a b s l0 l1 t x y c l0' l1' p0 p1 f x1 y1 t2 x2 y2) : Inv o a b (stepR a b s c) l0' l1' t2 x2 y2 := by
 rw [R.step h]
 have e7 := R.lx
 have e8 := R.ly
 have e9 := R.ft
 exact ⟨rfl, by simp only [regN]; omega, by simp only [regN]; omega, by simp only [regN]; omega, by simp only [regN]; omega, by simp only [regN]; omega, by simp only [regN]; omega, R.A2, R.B2⟩
theorem gap_len (s : Rs) (c : Cl) : (gapR s c).out.length ≤ s.out.length + 1 := by
 rw [gapR]
 split
 ·simp
 ·omega
theorem step_len (a b : List ByteArray) (s : Rs) (c : Cl) : (stepR a b s c).out.length ≤ s.out.length + 2 := by
 have := gap_len s c
 simp only [stepR, List.length_append, List.length_singleton]
 omega
theorem Inv.last_b {o a b : List ByteArray} {s : Rs} {l0 l1 : List Ed} {t x y : Nat} (h : Inv o a b s l0 l1 t x y) (ho : o.length ≤ 1048576) (ha : a.length ≤ 1048576) (hb : b.length ≤ 1048576) : S32B s.last := by
 have h1 := h.so
 have h2 := h.sa
 have h3 := h.sb
 have h4 := h.po
 have h5 := h.pa
 have h6 := h.pb
 have h7 := h.A.ht
 have h8 := h.A.hx
 have h9 := h.B.hx
 refine ⟨?_, ?_, ?_, ?_, ?_, ?_⟩ <;> unfold SpB <;> omega
theorem run_fit {o a b : List ByteArray} (ho : o.length ≤ 1048576) (ha : a.length ≤ 1048576) (hb : b.length ≤ 1048576) : ∀ (pre : List Cl) (c : Cl) (rest : List Cl) (s : Rs) (l0 l1 : List Ed) (t x y : Nat), Inv o a b s l0 l1 t x y → s.out.length + 2 * (l0.length + l1.length) ≤ 1099511627000 →
  clusters l0 l1 = pre ++ c :: rest → Fit a.length b.length (pre.foldl (stepR a b) s) c
 | [], c, rest, s, l0, l1, t, x, y, h, hn, hc => by
  have hl : 0 < l0.length + l1.length := by
   rcases Nat.eq_zero_or_pos (l0.length + l1.length) with h0 | h0
   ·rw [clusters_nil h0] at hc; cases hc
   ·exact h0
  obtain ⟨p0, p1, f, x1, y1, t2, x2, y2, R⟩ := h.round hl
  rw [clusters_cons hl, List.nil_append] at hc
  injection hc with hc _
  rw [hc] at R
  rw [List.foldl_nil]
  obtain ⟨g1, g2, g3, g4, g5, g6, _⟩ := R.gapped h
  have i1 := R.A2.ht
  have i2 := R.A2.hx
  have i3 := R.B2.hx
  have e1 := R.cf
  have e2 := R.ct
  have e3 := R.m0
  have e4 := R.m1
  have e5 := R.ex2
  have e6 := R.ey2
  have e7 := R.lx
  have e8 := R.ly
  have e9 := R.ft
  have e10 := h.at_
  have e11 := R.tf
  refine ⟨h.last_b ho ha hb, ?_, by unfold SmB; omega, by unfold SmB; omega, by unfold SmB; omega, by unfold SmB; omega, by unfold SmB; omega, ?_, ⟨x1, x2 - x1, ?_, by omega⟩, ⟨y1, y2 - y1, ?_, by omega⟩⟩
  ·refine ⟨?_, ?_, ?_, ?_, ?_, ?_⟩ <;> unfold SpB <;> omega
  ·show s.out.length ≤ _
   omega
  ·show (addR (gapR s c).last (c.t - c.f) c.m0 c.m1).f2 = _
   rw [R.reg h]
  ·show (addR (gapR s c).last (c.t - c.f) c.m0 c.m1).f3 = _
   rw [R.reg h]
 | c0 :: pre, c, rest, s, l0, l1, t, x, y, h, hn, hc => by
  have hl : 0 < l0.length + l1.length := by
   rcases Nat.eq_zero_or_pos (l0.length + l1.length) with h0 | h0
   ·rw [clusters_nil h0] at hc; cases hc
   ·exact h0
  obtain ⟨p0, p1, f, x1, y1, t2, x2, y2, R⟩ := h.round hl
  rw [clusters_cons hl, List.cons_append] at hc
  injection hc with hc hc2
  rw [hc] at R
  have h3 := step_len a b s c0
  have h4 := R.less
  exact run_fit ho ha hb pre c rest (stepR a b s c0) _ _ _ _ _ (R.inv h) (by omega) hc2
theorem run_end {o a b : List ByteArray} (ho : o.length ≤ 1048576) (ha : a.length ≤ 1048576) (hb : b.length ≤ 1048576) : ∀ (n : Nat) (s : Rs) (l0 l1 : List Ed) (t x y : Nat), l0.length + l1.length = n → Inv o a b s l0 l1 t x y → s.out.length + 2 * (l0.length + l1.length) ≤ 1099511627000 →
  FitE ((clusters l0 l1).foldl (stepR a b) s) ∧ ∃ t2 x2 y2, Inv o a b ((clusters l0 l1).foldl (stepR a b) s) [] [] t2 x2 y2 := by
 intro n
 induction n using Nat.strongRecOn with
 | _ n ih =>
  intro s l0 l1 t x y hn h hm
  rcases Nat.eq_zero_or_pos (l0.length + l1.length) with h0 | h0
  ·rw [clusters_nil h0, List.foldl_nil]
   have z0 : l0 = [] := List.length_eq_zero_iff.1 (by omega)
   have z1 : l1 = [] := List.length_eq_zero_iff.1 (by omega)
   subst z0 z1
   have h7 := h.A.ht
   have e := h.at_
   exact ⟨⟨h.last_b ho ha hb, by unfold SmB; omega, by simp at hm; exact hm⟩, t, x, y, h⟩
  ·obtain ⟨p0, p1, f, x1, y1, t2, x2, y2, R⟩ := h.round h0
   rw [clusters_cons h0, List.foldl_cons]
   have h3 := step_len a b s (absorb (startC l0 l1) l0 l1).1
   have h4 := R.less
   exact ih _ (by omega) _ _ _ _ _ _ rfl (R.inv h) (by omega)
theorem len_le_size' : ∀ (l : List Ed) (fr many : Int), okFrom fr many l = true → (l.length : Int) ≤ sizeE l ∧ ∀ e ∈ l, (e.f2.length : Int) ≤ sizeE l
 | [], fr, many, h => by simp [sizeE]
 | e :: l, fr, many, h => by
  obtain ⟨h1, h2, h3, h4, h5⟩ := okFrom_head h
  obtain ⟨i1, i2⟩ := len_le_size' l _ _ h5
  have hn := sizeE_nonneg l
  have hp : 1 ≤ e.f1 + (e.f2.length : Int) := by
   by_cases hz : e.f1 = 0
   ·have hne : e.f2 ≠ [] := fun hh => h4 ⟨hz, hh⟩
    have := List.length_pos_iff.2 hne
    omega
   ·omega
  refine ⟨by simp only [sizeE, List.length_cons]; omega, fun e' he' => ?_⟩
  simp only [sizeE]
  rcases List.mem_cons.1 he' with rfl | he'
  ·omega
  ·have := i2 e' he'
   omega
theorem inv_start (o a b : List ByteArray) : Inv o a b ⟨z32, [], 0⟩ (between o a) (between o b) 0 0 0 := by
 obtain ⟨k0, q0⟩ := between_ok o a
 obtain ⟨k1, q1⟩ := between_ok o b
 have w0 := playFrom_R o (between o a) 0 0 (by omega) k0
 have w1 := playFrom_R o (between o b) 0 0 (by omega) k1
 exact ⟨rfl, by decide, by decide, by decide, by decide, by decide, by decide, ⟨by omega, by omega, k0, by rw [← w0, List.drop_zero]; exact q0.symm⟩, ⟨by omega, by omega, k1, by rw [← w1, List.drop_zero]; exact q1.symm⟩⟩
theorem small_mul' {m n : Nat} (h : m ≤ 40) (h' : n ≤ 40) : m * n ≤ 65536 := Nat.le_trans (Nat.mul_le_mul h h') (by omega)
theorem between_b (o a : List ByteArray) (ho : o.length ≤ 40) (ha : a.length ≤ 40) : (∀ e ∈ between o a, EdOk e) ∧ (between o a).length ≤ 80 := by
 obtain ⟨k0, _⟩ := between_ok o a
 have hs := between_size o a (small_mul' ho ha)
 obtain ⟨i1, i2⟩ := len_le_size' _ _ _ k0
 refine ⟨fun e he => ?_, by omega⟩
 have h1 := okFrom_mem k0 e he
 have h2 := i2 e he
 exact ⟨by omega, by omega, by omega, by omega⟩
theorem regs_ok (o a b : List ByteArray) (ho : o.length ≤ 40) (ha : a.length ≤ 40) (hb : b.length ≤ 40) : RegsOk o a b := by
 obtain ⟨b0, n0⟩ := between_b o a ho ha
 obtain ⟨b1, n1⟩ := between_b o b ho hb
 have hi := inv_start o a b
 refine ⟨by omega, by omega, by omega, b0, b1, by omega, by omega, fun pre c rest hc => ?_, ?_⟩
 ·exact run_fit (by omega) (by omega) (by omega) pre c rest _ _ _ _ _ _ hi (by simp; omega) hc
 ·exact (run_end (by omega) (by omega) (by omega) _ _ _ _ _ _ _ rfl hi (by simp; omega)).1
def align_Regions.f (o a b : List ByteArray) : Option (List S32) := if o.length ≤ 40 ∧ a.length ≤ 40 ∧ b.length ≤ 40 then some (regionsP o a b) else none
theorem regions_some (o a b : List ByteArray) (ho : o.length ≤ 40) (ha : a.length ≤ 40) (hb : b.length ≤ 40) : align_Regions.f o a b = some (regionsP o a b) := by
 rw [align_Regions.f, if_pos ⟨ho, ha, hb⟩]
theorem align_Regions.calls (A0 : Option Addr) (c0 : Nat) (l0 : List ByteArray) (A1 : Option Addr) (c1 : Nat) (l1 : List ByteArray) (A2 : Option Addr) (c2 : Nat) (l2 : List ByteArray) (r : List S32) (w : World)
  (hr0 : Kd.C Kd.string w A0 l0.length l0) (hc0 : l0.length ≤ c0) (hr1 : Kd.C Kd.string w A1 l1.length l1) (hc1 : l1.length ≤ c1) (hr2 : Kd.C Kd.string w A2 l2.length l2) (hc2 : l2.length ≤ c2) (h : align_Regions.f l0 l1 l2 = some r) :
  Calls Try.prog 9 #[.slice A0 l0.length c0, .slice A1 l1.length c1, .slice A2 l2.length c2] w fun e w' => ∃ v0_ : Value, e = .returned (v0_) ∧ Kd.R k32 32 w' w.heap.size (fun _ => True) v0_ r ∧ Below w.heap.size w w' := by
 unfold align_Regions.f at h
 split at h
 ·rename_i hl
  refine align_Regions0.calls A0 c0 l0 A1 c1 l1 A2 c2 l2 r w hr0 hc0 hr1 hc1 hr2 hc2 ?_
  rw [align_Regions0.f, if_pos (regs_ok l0 l1 l2 hl.1 hl.2.1 hl.2.2)]
  exact h
 ·cases h
end Go.Proofs.Ytnmphfelebkaiaa.Pr
-- shrunk
