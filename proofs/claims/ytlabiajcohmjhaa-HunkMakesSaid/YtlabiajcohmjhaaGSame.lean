/-
grapevineref04.Same's contract: it answers whether two lists of edits are one.
-/
import Derived.Lib.SlicesS
import Derived.IntWalk
import Derived.Test.YtlabiajcohmjhaaGSpecT
namespace Go.Proofs.Ytlabiajcohmjhaa.Pr
open Go.RowKit Go.Proofs.YtlabiajcohmjhaaW.PrintWords Go.Proofs.YtlabiajcohmjhaaW.PrintLast Go.Proofs.YtlabiajcohmjhaaW.PrintMore
set_option linter.unusedVariables false
set_option linter.unusedSimpArgs false
instance edDec : DecidableEq Ed := fun a b => decidable_of_iff (a.f0 = b.f0 ∧ a.f1 = b.f1 ∧ a.f2 = b.f2) ⟨fun h => by cases a; cases b; obtain ⟨h1, h2, h3⟩ := h; cases h1; cases h2; cases h3; rfl, fun h => by subst h; exact ⟨rfl, rfl, rfl⟩⟩
def Ok40 (l : List Ed) : Prop := l.length ≤ 1099511627776 ∧ ∀ e ∈ l, e.f2.length ≤ 1099511627776
instance (l : List Ed) : Decidable (Ok40 l) := by unfold Ok40; infer_instance
def grapevineref04_Same.f (l0 l1 : List Ed) : Option Bool := if Ok40 l0 then some (decide (l0 = l1)) else none
theorem drop_eq_E {a b : List Ed} {i : Nat} (h0 : i < a.length) (h1 : i < b.length) : a.drop i = b.drop i ↔ (a[i].f0 = b[i].f0 ∧ a[i].f1 = b[i].f1 ∧ a[i].f2 = b[i].f2) ∧ a.drop (i + 1) = b.drop (i + 1) := by
 rw [drop_eq_iff h0 h1]
 refine and_congr ⟨fun h => by rw [h]; exact ⟨rfl, rfl, rfl⟩, fun h => ?_⟩ Iff.rfl
 generalize a[i] = x at h ⊢
 generalize b[i] = y at h ⊢
 cases x; cases y
 obtain ⟨h1, h2, h3⟩ := h
 cases h1; cases h2; cases h3; rfl
theorem at_ed {w : World} {A : Option Addr} {xs : List Ed} (h : Kd.C k51 w A xs.length xs) (i : Nat) (hi : i < xs.length) :
  ∃ ad A2 c2, A = some ad ∧ w.cell? (ad.add (i * 3)) = some (.int .i64 (xs[i]).f0) ∧ w.cell? ⟨(ad.add (i * 3)).block, (ad.add (i * 3)).off + 1, none⟩ = some (.int .i64 (xs[i]).f1) ∧
   w.cell? ⟨(ad.add (i * 3)).block, (ad.add (i * 3)).off + 2, none⟩ = some (.slice A2 (xs[i]).f2.length c2) ∧ (xs[i]).f2.length ≤ c2 ∧ Kd.C Kd.string w A2 (xs[i]).f2.length (xs[i]).f2 := by
 have e : rd_T51 xs (i : Int) = xs[i] := by
  rw [rd_T51, Int.toNat_natCast, List.getD_eq_getElem?_getD, List.getElem?_eq_getElem hi, Option.getD_some]
 have h2 := at_T51 h (i : Int) (by omega) (by omega)
 rw [e] at h2
 exact h2
set_option maxRecDepth 100000 in
set_option maxHeartbeats 2000000 in
theorem grapevineref04_Same.calls (A0 : Option Addr) (c0 : Nat) (l0 : List Ed) (A1 : Option Addr) (c1 : Nat) (l1 : List Ed) (r : Bool) (w : World) (hr0 : Kd.C k51 w A0 l0.length l0) (hc0 : l0.length ≤ c0) (hr1 : Kd.C k51 w A1 l1.length l1) (hc1 : l1.length ≤ c1) (h : grapevineref04_Same.f l0 l1 = some r) :
  Calls Try.prog 20 #[.slice A0 l0.length c0, .slice A1 l1.length c1] w fun e w' => e = .returned (.bool r) ∧ Drawn0 w w' := by
 unfold grapevineref04_Same.f at h
 by_cases hk : Ok40 l0
 ·rw [if_pos hk] at h
  obtain rfl := Option.some.inj h
  have HR0 := Aside0.mk hr0
  have HR1 := Aside0.mk hr1
  have HK := Aside0.mk hk
  have hn0 : l0.length ≤ 1099511627776 := hk.1
  clear h hr0 hr1 hk hc0 hc1
  by_cases hl : l0.length = l1.length
  ·have f1 : ((l0.length : Int) != (l1.length : Int)) = false := bne_eq_false_iff_eq.2 (by omega)
   have f2 : (l0.length == l1.length) = true := beq_iff_eq.2 hl
   have f3 : (l0.length != l1.length) = false := by simp [hl]
   have HL := Aside0.mk hl
   clear hl
   go_enter Try.func20, Try.ntmps20
   go_wp2
   go_loopw [5] (fun v w' => ∃ i : Nat, i ≤ l0.length ∧ v = .int .i64 i ∧ Aside0 (decide (l0.drop i = l1.drop i) = decide (l0 = l1)) ∧ Drawn0 w w') (fun v _ => l0.length - (intOf v).toNat)
   case atStart => exact ⟨0, Nat.zero_le _, rfl, ⟨by simp⟩, Drawn0.refl _⟩
   case round =>
    obtain ⟨i, hi, rfl, HE, ⟨nd, rfl⟩⟩ := hrel
    by_cases hlt : i < l0.length
    ·have hlt1 : i < l1.length := by have := HL.out; omega
     have HD := Aside0.mk (drop_eq_E hlt hlt1)
     obtain ⟨ad0, B0, d0, e0, hx0, hx1, hx2, hd0, hC0⟩ := at_ed HR0.out i hlt
     obtain ⟨ad1, B1, d1, e1, hy0, hy1, hy2, hd1, hC1⟩ := at_ed HR1.out i hlt1
     cases e0
     cases e1
     have HO := Aside0.mk (HK.out.2 _ (List.getElem_mem hlt))
     generalize l0[i] = x at *
     generalize l1[i] = y at *
     have H0 := Aside0.mk (And.intro hC0 hd0)
     have H1 := Aside0.mk (And.intro hC1 hd1)
     clear hC0 hd0 hC1 hd1
     have g0 : (0 : Int) ≤ (i : Int) := by omega
     have g1 : (i : Int) < (l0.length : Int) := by omega
     have g2 : (i : Int) < (l1.length : Int) := by omega
     have g3 : decide (i < l0.length) = true := by simp; omega
     by_cases c0 : x.f0 = y.f0
     ·have b0 : (x.f0 != y.f0) = false := bne_eq_false_iff_eq.2 c0
      by_cases c1 : x.f1 = y.f1
      ·have b1 : (x.f1 != y.f1) = false := bne_eq_false_iff_eq.2 c1
       obtain ⟨kt, hkt⟩ := (Texts_ev x.f2 y.f2 (by have := HO.out; omega)).rounds
       by_cases c2 : x.f2 = y.f2
       ·rw [decide_eq_true c2] at hkt
        have HE2 := Aside0.mk (show decide (l0.drop (i + 1) = l1.drop (i + 1)) = decide (l0 = l1) by rw [← HE.out]; exact decide_eq_decide.2 (by rw [HD.out]; simp [c0, c1, c2]))
        have HKT := Aside0.mk hkt
        clear hkt c0 c1 c2 HE
        go_wp2
        go_quiet ((go_at_call 26; exact (grapevineref01_Texts.calls kt _ _ x.f2 _ _ y.f2 true _ (Kd.C_drewN H0.out.1 _) H0.out.2 (Kd.C_drewN H1.out.1 _) H1.out.2 HKT.out).mono fun _ _ h => ⟨h.1, by obtain ⟨m, hm⟩ := h.2.out; exact ⟨_, by rw [hm, World.drewN_drewN, Nat.add_assoc]⟩⟩))
        go_wp2
        go_roundw
        case rel => exact ⟨i + 1, by omega, by go_num, HE2, ⟨⟨nd + nq, by first | rfl | exact World.drewN_drewN ..⟩⟩⟩
        case measure => simp [intOf]; omega
       ·rw [decide_eq_false c2] at hkt
        have HE2 := Aside0.mk (show decide (l0 = l1) = false by rw [← HE.out]; exact decide_eq_false (by rw [HD.out]; simp [c2]))
        have HKT := Aside0.mk hkt
        clear hkt c0 c1 c2 HE
        go_wp2
        go_quiet ((go_at_call 26; exact (grapevineref01_Texts.calls kt _ _ x.f2 _ _ y.f2 false _ (Kd.C_drewN H0.out.1 _) H0.out.2 (Kd.C_drewN H1.out.1 _) H1.out.2 HKT.out).mono fun _ _ h => ⟨h.1, by obtain ⟨m, hm⟩ := h.2.out; exact ⟨_, by rw [hm, World.drewN_drewN, Nat.add_assoc]⟩⟩))
        go_wp2
        go_ret
        exact ⟨by rw [HE2.out]; rfl, ⟨⟨nd + nq, by first | rfl | exact World.drewN_drewN ..⟩⟩⟩
      ·have b1 : (x.f1 != y.f1) = true := bne_iff_ne.2 c1
       have HE2 := Aside0.mk (show decide (l0 = l1) = false by rw [← HE.out]; exact decide_eq_false (by rw [HD.out]; simp [c1]))
       clear c0 c1 HE
       go_wp2
       go_quiet (fail)
       go_wp2
       go_ret
       exact ⟨by rw [HE2.out]; rfl, ⟨⟨nd + nq, by first | rfl | exact World.drewN_drewN ..⟩⟩⟩
     ·have b0 : (x.f0 != y.f0) = true := bne_iff_ne.2 c0
      have HE2 := Aside0.mk (show decide (l0 = l1) = false by rw [← HE.out]; exact decide_eq_false (by rw [HD.out]; simp [c0]))
      clear c0 HE
      go_wp2
      go_quiet (fail)
      go_wp2
      go_ret
      exact ⟨by rw [HE2.out]; rfl, ⟨⟨nd + nq, by first | rfl | exact World.drewN_drewN ..⟩⟩⟩
    ·have g3 : decide (i < l0.length) = false := by simp; omega
     have HE2 := Aside0.mk (show decide (l0 = l1) = true by rw [← HE.out, List.drop_of_length_le (by omega), List.drop_of_length_le (by have := HL.out; omega)]; rfl)
     clear HE
     go_wp2
     go_ret
     exact ⟨by rw [HE2.out]; rfl, ⟨⟨nd, rfl⟩⟩⟩
  ·have f1 : ((l0.length : Int) != (l1.length : Int)) = true := bne_iff_ne.2 (by omega)
   have f2 : (l0.length == l1.length) = false := beq_eq_false_iff_ne.2 hl
   have f3 : (l0.length != l1.length) = true := bne_iff_ne.2 hl
   have HE2 := Aside0.mk (show decide (l0 = l1) = false from decide_eq_false (fun h => hl (by rw [h])))
   clear hl
   go_enter Try.func20, Try.ntmps20
   go_wp2
   go_ret
   exact ⟨by rw [HE2.out]; rfl, Drawn0.refl _⟩
 ·rw [if_neg hk] at h; cases h
end Go.Proofs.Ytlabiajcohmjhaa.Pr
-- shrunk
