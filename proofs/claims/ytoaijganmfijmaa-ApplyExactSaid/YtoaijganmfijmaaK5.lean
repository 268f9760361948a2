/-
Several plain texts in one.
-/
import Derived.Test.YtoaijganmfijmaaK0
import Derived.Test.YtoaijganmfijmaaK3
import Derived.Test.YtoaijganmfijmaaK2
import Derived.Test.YtoaijganmfijmaaK4
import Derived.Test.YtoaijganmfijmaaK1
-- written by a program of this session's (a turned copy of the kit's printer); Lean checks it
namespace Go.Proofs.Ytoaijganmfijmaa.Pr
open Go.RowKit Go.Proofs.YtoaijganmfijmaaW.PrintWords Go.Proofs.YtoaijganmfijmaaW.PrintLast Go.Proofs.YtoaijganmfijmaaW.PrintMore
attribute [local go_sem] max2_int min2_int max_two min_two max_three min_three max_four min_four   -- for this text's walks alone
set_option linter.unusedVariables false
set_option linter.unusedSimpArgs false

def grapevinelaw07_awake0.f (k : Nat)  : Option (Bool) := (some (([(⟨0, 1, 0, 1, (([(⟨#[45, 97]⟩ : ByteArray), (⟨#[43, 98]⟩ : ByteArray)] : List ByteArray))⟩ : S41)] : List (S41)) : List (S41))).bind fun y288 => ((apply_Apply.f (([(⟨#[97]⟩ : ByteArray)] : List ByteArray)) y288).bind fun bt294 => ((apply_Apply.f (([(⟨#[99]⟩ : ByteArray)] : List ByteArray)) y288).bind fun bt301 => ((apply_Between.f k (([(⟨#[97]⟩ : ByteArray)] : List ByteArray)) (([(⟨#[98]⟩ : ByteArray)] : List ByteArray)) 0).bind fun bt311 => (if bt294.2 = 0 then ((grapevineref01_Texts.f k bt294.1 (([(⟨#[98]⟩ : ByteArray)] : List ByteArray))).bind fun t318 => (if t318 = true then (if bt301.2 = 6 then (if bt311.2 = 0 then ((grapevineref05_Same.f k bt311.1 y288).bind fun t319 => (if t319 = true then ((apply_Right.f k y288).bind fun t320 => (if t320 = true then ((apply_Turn.f k y288).bind fun t321 => (some ((t321.length : Int) == 1))) else (some false))) else (some false))) else (some false)) else (some false)) else (some false))) else (some false)))))
theorem grapevinelaw07_awake0.mono : ∀ k, LeO (grapevinelaw07_awake0.f k ) (grapevinelaw07_awake0.f (k + 1) ) := by
 intro  k
 unfold grapevinelaw07_awake0.f
 repeat' first
   | (with_reducible exact apply_Between.mono _ _ _ _)
   | (with_reducible exact apply_Right.mono _ _)
   | (with_reducible exact apply_Turn.mono _ _)
   | (with_reducible exact grapevineref01_Texts.mono _ _ _)
   | (with_reducible exact grapevineref05_Same.mono _ _ _)
   | (with_reducible exact LeO.refl _)
   | (with_reducible exact LeO.none _)
   | (with_reducible refine LeO.ite ?_ ?_)
   | (with_reducible refine LeO.bind ?_ (fun _ => ?_))
   | exact apply_Between.mono _ _ _ _
   | exact apply_Right.mono _ _
   | exact apply_Turn.mono _ _
   | exact grapevineref01_Texts.mono _ _ _
   | exact grapevineref05_Same.mono _ _ _
   | exact LeO.none _
   | refine LeO.ite ?_ ?_
   | refine LeO.bind ?_ (fun _ => ?_)
set_option maxHeartbeats 8000000 in
set_option maxRecDepth 100000 in
theorem grapevinelaw07_awake0.calls (k : Nat)  (r : Bool) (w : World) (hrt_ : Aside0 (r = true)) (h : grapevinelaw07_awake0.f k  = some r) :
  Calls Try.prog 10 #[] w fun e w' => e = .returned (.bool r) ∧ Below w.heap.size w w' := by
 have hu41 := Try.underlying41
 have HB := Aside0.mk (Below.refl w.heap.size w)
 have H : ((some (([(⟨0, 1, 0, 1, (([(⟨#[45, 97]⟩ : ByteArray), (⟨#[43, 98]⟩ : ByteArray)] : List ByteArray))⟩ : S41)] : List (S41)) : List (S41))).bind fun y288 => ((apply_Apply.f (([(⟨#[97]⟩ : ByteArray)] : List ByteArray)) y288).bind fun bt294 => ((apply_Apply.f (([(⟨#[99]⟩ : ByteArray)] : List ByteArray)) y288).bind fun bt301 => ((apply_Between.f k (([(⟨#[97]⟩ : ByteArray)] : List ByteArray)) (([(⟨#[98]⟩ : ByteArray)] : List ByteArray)) 0).bind fun bt311 => (if bt294.2 = 0 then ((grapevineref01_Texts.f k bt294.1 (([(⟨#[98]⟩ : ByteArray)] : List ByteArray))).bind fun t318 => (if t318 = true then (if bt301.2 = 6 then (if bt311.2 = 0 then ((grapevineref05_Same.f k bt311.1 y288).bind fun t319 => (if t319 = true then ((apply_Right.f k y288).bind fun t320 => (if t320 = true then ((apply_Turn.f k y288).bind fun t321 => (some ((t321.length : Int) == 1))) else (some false))) else (some false))) else (some false)) else (some false)) else (some false))) else (some false)))))) = some r := h
 clear h
 obtain ⟨y285, hy285⟩ : ∃ y_ : List ByteArray, y_ = (([(⟨#[45, 97]⟩ : ByteArray), (⟨#[43, 98]⟩ : ByteArray)] : List ByteArray)) := ⟨_, rfl⟩
 replace H : ((some (([(⟨0, 1, 0, 1, y285⟩ : S41)] : List (S41)) : List (S41))).bind fun y288 => ((apply_Apply.f (([(⟨#[97]⟩ : ByteArray)] : List ByteArray)) y288).bind fun bt294 => ((apply_Apply.f (([(⟨#[99]⟩ : ByteArray)] : List ByteArray)) y288).bind fun bt301 => ((apply_Between.f k (([(⟨#[97]⟩ : ByteArray)] : List ByteArray)) (([(⟨#[98]⟩ : ByteArray)] : List ByteArray)) 0).bind fun bt311 => (if bt294.2 = 0 then ((grapevineref01_Texts.f k bt294.1 (([(⟨#[98]⟩ : ByteArray)] : List ByteArray))).bind fun t318 => (if t318 = true then (if bt301.2 = 6 then (if bt311.2 = 0 then ((grapevineref05_Same.f k bt311.1 y288).bind fun t319 => (if t319 = true then ((apply_Right.f k y288).bind fun t320 => (if t320 = true then ((apply_Turn.f k y288).bind fun t321 => (some ((t321.length : Int) == 1))) else (some false))) else (some false))) else (some false)) else (some false)) else (some false))) else (some false)))))) = some r := by first | (rw [hy285]; with_reducible exact H) | (have H2_ := (Option.bind_some _ _).symm.trans H; rw [hy285]; with_reducible exact H2_) | (have H2_ := (Option.bind_some _ _).symm.trans H; with_reducible exact H2_) | with_reducible exact H | (rw [hy285]; exact H) | exact H
 have Ny285 := Aside0.mk hy285
 clear hy285
 obtain ⟨y288, hy288⟩ : ∃ y_ : List (S41), y_ = (([(⟨0, 1, 0, 1, y285⟩ : S41)] : List (S41))) := ⟨_, rfl⟩
 replace H : ((apply_Apply.f (([(⟨#[97]⟩ : ByteArray)] : List ByteArray)) y288).bind fun bt294 => ((apply_Apply.f (([(⟨#[99]⟩ : ByteArray)] : List ByteArray)) y288).bind fun bt301 => ((apply_Between.f k (([(⟨#[97]⟩ : ByteArray)] : List ByteArray)) (([(⟨#[98]⟩ : ByteArray)] : List ByteArray)) 0).bind fun bt311 => (if bt294.2 = 0 then ((grapevineref01_Texts.f k bt294.1 (([(⟨#[98]⟩ : ByteArray)] : List ByteArray))).bind fun t318 => (if t318 = true then (if bt301.2 = 6 then (if bt311.2 = 0 then ((grapevineref05_Same.f k bt311.1 y288).bind fun t319 => (if t319 = true then ((apply_Right.f k y288).bind fun t320 => (if t320 = true then ((apply_Turn.f k y288).bind fun t321 => (some ((t321.length : Int) == 1))) else (some false))) else (some false))) else (some false)) else (some false)) else (some false))) else (some false))))) = some r := by first | (rw [hy288]; with_reducible exact H) | (have H2_ := (Option.bind_some _ _).symm.trans H; rw [hy288]; with_reducible exact H2_) | (have H2_ := (Option.bind_some _ _).symm.trans H; with_reducible exact H2_) | with_reducible exact H | (rw [hy288]; exact H) | exact H
 have Ny288 := Aside0.mk hy288
 clear hy288
 obtain ⟨y291, hy291⟩ : ∃ y_ : List ByteArray, y_ = (([(⟨#[97]⟩ : ByteArray)] : List ByteArray)) := ⟨_, rfl⟩
 replace H : ((apply_Apply.f y291 y288).bind fun bt294 => ((apply_Apply.f (([(⟨#[99]⟩ : ByteArray)] : List ByteArray)) y288).bind fun bt301 => ((apply_Between.f k (([(⟨#[97]⟩ : ByteArray)] : List ByteArray)) (([(⟨#[98]⟩ : ByteArray)] : List ByteArray)) 0).bind fun bt311 => (if bt294.2 = 0 then ((grapevineref01_Texts.f k bt294.1 (([(⟨#[98]⟩ : ByteArray)] : List ByteArray))).bind fun t318 => (if t318 = true then (if bt301.2 = 6 then (if bt311.2 = 0 then ((grapevineref05_Same.f k bt311.1 y288).bind fun t319 => (if t319 = true then ((apply_Right.f k y288).bind fun t320 => (if t320 = true then ((apply_Turn.f k y288).bind fun t321 => (some ((t321.length : Int) == 1))) else (some false))) else (some false))) else (some false)) else (some false)) else (some false))) else (some false))))) = some r := by first | (rw [hy291]; with_reducible exact H) | (have H2_ := (Option.bind_some _ _).symm.trans H; rw [hy291]; with_reducible exact H2_) | (have H2_ := (Option.bind_some _ _).symm.trans H; with_reducible exact H2_) | with_reducible exact H | (rw [hy291]; exact H) | exact H
 have Ny291 := Aside0.mk hy291
 clear hy291
 replace H := Option.bind_eq_some_iff.mp H
 obtain ⟨⟨t294, t295⟩, A10, H⟩ := H
 replace H : ((apply_Apply.f (([(⟨#[99]⟩ : ByteArray)] : List ByteArray)) y288).bind fun bt301 => ((apply_Between.f k (([(⟨#[97]⟩ : ByteArray)] : List ByteArray)) (([(⟨#[98]⟩ : ByteArray)] : List ByteArray)) 0).bind fun bt311 => (if t295 = 0 then ((grapevineref01_Texts.f k t294 (([(⟨#[98]⟩ : ByteArray)] : List ByteArray))).bind fun t318 => (if t318 = true then (if bt301.2 = 6 then (if bt311.2 = 0 then ((grapevineref05_Same.f k bt311.1 y288).bind fun t319 => (if t319 = true then ((apply_Right.f k y288).bind fun t320 => (if t320 = true then ((apply_Turn.f k y288).bind fun t321 => (some ((t321.length : Int) == 1))) else (some false))) else (some false))) else (some false)) else (some false)) else (some false))) else (some false)))) = some r := H
 have A1 := Aside0.mk A10
 clear A10
 obtain ⟨y298, hy298⟩ : ∃ y_ : List ByteArray, y_ = (([(⟨#[99]⟩ : ByteArray)] : List ByteArray)) := ⟨_, rfl⟩
 replace H : ((apply_Apply.f y298 y288).bind fun bt301 => ((apply_Between.f k (([(⟨#[97]⟩ : ByteArray)] : List ByteArray)) (([(⟨#[98]⟩ : ByteArray)] : List ByteArray)) 0).bind fun bt311 => (if t295 = 0 then ((grapevineref01_Texts.f k t294 (([(⟨#[98]⟩ : ByteArray)] : List ByteArray))).bind fun t318 => (if t318 = true then (if bt301.2 = 6 then (if bt311.2 = 0 then ((grapevineref05_Same.f k bt311.1 y288).bind fun t319 => (if t319 = true then ((apply_Right.f k y288).bind fun t320 => (if t320 = true then ((apply_Turn.f k y288).bind fun t321 => (some ((t321.length : Int) == 1))) else (some false))) else (some false))) else (some false)) else (some false)) else (some false))) else (some false)))) = some r := by first | (rw [hy298]; with_reducible exact H) | (have H2_ := (Option.bind_some _ _).symm.trans H; rw [hy298]; with_reducible exact H2_) | (have H2_ := (Option.bind_some _ _).symm.trans H; with_reducible exact H2_) | with_reducible exact H | (rw [hy298]; exact H) | exact H
 have Ny298 := Aside0.mk hy298
 clear hy298
 replace H := Option.bind_eq_some_iff.mp H
 obtain ⟨⟨t301, t302⟩, A20, H⟩ := H
 replace H : ((apply_Between.f k (([(⟨#[97]⟩ : ByteArray)] : List ByteArray)) (([(⟨#[98]⟩ : ByteArray)] : List ByteArray)) 0).bind fun bt311 => (if t295 = 0 then ((grapevineref01_Texts.f k t294 (([(⟨#[98]⟩ : ByteArray)] : List ByteArray))).bind fun t318 => (if t318 = true then (if t302 = 6 then (if bt311.2 = 0 then ((grapevineref05_Same.f k bt311.1 y288).bind fun t319 => (if t319 = true then ((apply_Right.f k y288).bind fun t320 => (if t320 = true then ((apply_Turn.f k y288).bind fun t321 => (some ((t321.length : Int) == 1))) else (some false))) else (some false))) else (some false)) else (some false)) else (some false))) else (some false))) = some r := H
 have A2 := Aside0.mk A20
 clear A20
 obtain ⟨y305, hy305⟩ : ∃ y_ : List ByteArray, y_ = (([(⟨#[97]⟩ : ByteArray)] : List ByteArray)) := ⟨_, rfl⟩
 replace H : ((apply_Between.f k y305 (([(⟨#[98]⟩ : ByteArray)] : List ByteArray)) 0).bind fun bt311 => (if t295 = 0 then ((grapevineref01_Texts.f k t294 (([(⟨#[98]⟩ : ByteArray)] : List ByteArray))).bind fun t318 => (if t318 = true then (if t302 = 6 then (if bt311.2 = 0 then ((grapevineref05_Same.f k bt311.1 y288).bind fun t319 => (if t319 = true then ((apply_Right.f k y288).bind fun t320 => (if t320 = true then ((apply_Turn.f k y288).bind fun t321 => (some ((t321.length : Int) == 1))) else (some false))) else (some false))) else (some false)) else (some false)) else (some false))) else (some false))) = some r := by first | (rw [hy305]; with_reducible exact H) | (have H2_ := (Option.bind_some _ _).symm.trans H; rw [hy305]; with_reducible exact H2_) | (have H2_ := (Option.bind_some _ _).symm.trans H; with_reducible exact H2_) | with_reducible exact H | (rw [hy305]; exact H) | exact H
 have Ny305 := Aside0.mk hy305
 clear hy305
 obtain ⟨y308, hy308⟩ : ∃ y_ : List ByteArray, y_ = (([(⟨#[98]⟩ : ByteArray)] : List ByteArray)) := ⟨_, rfl⟩
 replace H : ((apply_Between.f k y305 y308 0).bind fun bt311 => (if t295 = 0 then ((grapevineref01_Texts.f k t294 (([(⟨#[98]⟩ : ByteArray)] : List ByteArray))).bind fun t318 => (if t318 = true then (if t302 = 6 then (if bt311.2 = 0 then ((grapevineref05_Same.f k bt311.1 y288).bind fun t319 => (if t319 = true then ((apply_Right.f k y288).bind fun t320 => (if t320 = true then ((apply_Turn.f k y288).bind fun t321 => (some ((t321.length : Int) == 1))) else (some false))) else (some false))) else (some false)) else (some false)) else (some false))) else (some false))) = some r := by first | (rw [hy308]; with_reducible exact H) | (have H2_ := (Option.bind_some _ _).symm.trans H; rw [hy308]; with_reducible exact H2_) | (have H2_ := (Option.bind_some _ _).symm.trans H; with_reducible exact H2_) | with_reducible exact H | (rw [hy308]; exact H) | exact H
 have Ny308 := Aside0.mk hy308
 clear hy308
 replace H := Option.bind_eq_some_iff.mp H
 obtain ⟨⟨t311, t312⟩, A30, H⟩ := H
 replace H : (if t295 = 0 then ((grapevineref01_Texts.f k t294 (([(⟨#[98]⟩ : ByteArray)] : List ByteArray))).bind fun t318 => (if t318 = true then (if t302 = 6 then (if t312 = 0 then ((grapevineref05_Same.f k t311 y288).bind fun t319 => (if t319 = true then ((apply_Right.f k y288).bind fun t320 => (if t320 = true then ((apply_Turn.f k y288).bind fun t321 => (some ((t321.length : Int) == 1))) else (some false))) else (some false))) else (some false)) else (some false)) else (some false))) else (some false)) = some r := H
 have A3 := Aside0.mk A30
 clear A30
 by_cases c4 : t295 = 0
 ·rw [if_pos c4] at H
  have c4b0 : (t295 == 0) = true := beq_iff_eq.mpr c4
  have c4b1 : (t295 != 0) = false := bne_eq_false_iff_eq.mpr c4
  clear c4
  obtain ⟨y315, hy315⟩ : ∃ y_ : List ByteArray, y_ = (([(⟨#[98]⟩ : ByteArray)] : List ByteArray)) := ⟨_, rfl⟩
  replace H : ((grapevineref01_Texts.f k t294 y315).bind fun t318 => (if t318 = true then (if t302 = 6 then (if t312 = 0 then ((grapevineref05_Same.f k t311 y288).bind fun t319 => (if t319 = true then ((apply_Right.f k y288).bind fun t320 => (if t320 = true then ((apply_Turn.f k y288).bind fun t321 => (some ((t321.length : Int) == 1))) else (some false))) else (some false))) else (some false)) else (some false)) else (some false))) = some r := by first | (rw [hy315]; with_reducible exact H) | (have H2_ := (Option.bind_some _ _).symm.trans H; rw [hy315]; with_reducible exact H2_) | (have H2_ := (Option.bind_some _ _).symm.trans H; with_reducible exact H2_) | with_reducible exact H | (rw [hy315]; exact H) | exact H
  have Ny315 := Aside0.mk hy315
  clear hy315
  replace H := Option.bind_eq_some_iff.mp H
  obtain ⟨t318, A50, H⟩ := H
  replace H : (if t318 = true then (if t302 = 6 then (if t312 = 0 then ((grapevineref05_Same.f k t311 y288).bind fun t319 => (if t319 = true then ((apply_Right.f k y288).bind fun t320 => (if t320 = true then ((apply_Turn.f k y288).bind fun t321 => (some ((t321.length : Int) == 1))) else (some false))) else (some false))) else (some false)) else (some false)) else (some false)) = some r := H
  have A5 := Aside0.mk A50
  clear A50
  by_cases c6 : t318 = true
  ·subst c6
   have H1 : (if t302 = 6 then (if t312 = 0 then ((grapevineref05_Same.f k t311 y288).bind fun t319 => (if t319 = true then ((apply_Right.f k y288).bind fun t320 => (if t320 = true then ((apply_Turn.f k y288).bind fun t321 => (some ((t321.length : Int) == 1))) else (some false))) else (some false))) else (some false)) else (some false)) = some r := by rw [if_pos rfl] at H; exact H
   clear H
   have H := H1
   clear H1
   by_cases c7 : t302 = 6
   ·rw [if_pos c7] at H
    have c7b0 : (t302 == 6) = true := beq_iff_eq.mpr c7
    have c7b1 : (t302 != 6) = false := bne_eq_false_iff_eq.mpr c7
    clear c7
    by_cases c8 : t312 = 0
    ·rw [if_pos c8] at H
     have c8b0 : (t312 == 0) = true := beq_iff_eq.mpr c8
     have c8b1 : (t312 != 0) = false := bne_eq_false_iff_eq.mpr c8
     clear c8
     replace H := Option.bind_eq_some_iff.mp H
     obtain ⟨t319, A90, H⟩ := H
     replace H : (if t319 = true then ((apply_Right.f k y288).bind fun t320 => (if t320 = true then ((apply_Turn.f k y288).bind fun t321 => (some ((t321.length : Int) == 1))) else (some false))) else (some false)) = some r := H
     have A9 := Aside0.mk A90
     clear A90
     by_cases c10 : t319 = true
     ·subst c10
      have H1 : ((apply_Right.f k y288).bind fun t320 => (if t320 = true then ((apply_Turn.f k y288).bind fun t321 => (some ((t321.length : Int) == 1))) else (some false))) = some r := by rw [if_pos rfl] at H; exact H
      clear H
      have H := H1
      clear H1
      replace H := Option.bind_eq_some_iff.mp H
      obtain ⟨t320, A110, H⟩ := H
      replace H : (if t320 = true then ((apply_Turn.f k y288).bind fun t321 => (some ((t321.length : Int) == 1))) else (some false)) = some r := H
      have A11 := Aside0.mk A110
      clear A110
      by_cases c12 : t320 = true
      ·subst c12
       have H1 : ((apply_Turn.f k y288).bind fun t321 => (some ((t321.length : Int) == 1))) = some r := by rw [if_pos rfl] at H; exact H
       clear H
       have H := H1
       clear H1
       replace H := Option.bind_eq_some_iff.mp H
       obtain ⟨t321, A130, H⟩ := H
       replace H : (some ((t321.length : Int) == 1)) = some r := H
       have A13 := Aside0.mk A130
       clear A130
       obtain rfl := Option.some.inj H
       go_enter Try.func10, Try.ntmps10
       go_wp2_with (first | ((with_reducible refine gate_dst (N := 8) rfl ?_); (try (refine gate_guard (by rfl) ?_; dsimp only)); refine Kd.R_lit Kd.string _ 9 ?hg (N := 8) ?hd (xs := ([(⟨#[45, 97]⟩ : ByteArray), (⟨#[43, 98]⟩ : ByteArray)] : List ByteArray)) (inner := [.string (⟨#[45, 97]⟩ : ByteArray), .string (⟨#[43, 98]⟩ : ByteArray)]) (ok := fun _ => True) (okp := fun _ => True) ?hr ?hp (fun _ hk => hk) trivial (Below.refl _ _) (Nat.le_refl _) (by simp) ?_; (case hd => rfl); (case hg => rfl); (case hr => first | (go_simp; done) | (go_simp; rfl)); (case hp => exact (Reps.one (show Kd.M Kd.string _ _ _ (⟨#[45, 97]⟩ : ByteArray) [.string (⟨#[45, 97]⟩ : ByteArray)] from rfl) (Reps.one (show Kd.M Kd.string _ _ _ (⟨#[43, 98]⟩ : ByteArray) [.string (⟨#[43, 98]⟩ : ByteArray)] from rfl) (Reps.none _ _)))); intro v286 w14 ho15 hb hg_ hnew_; clear hg_ hnew_; (first | rw [← Ny285.out] at ho15 | (simp only [Int.reduceToNat] at ho15; rw [← Ny285.out] at ho15)); have n0_ := Aside0.mk (Kd.R_lower ho15 (below_size (by repeat (first | (with_reducible first | exact HB.out | apply below_alloc | apply pw_below_drewN | apply below_drew1) | exact HB.out)))); have n1_ := Aside0.mk (below_step (by repeat (first | (with_reducible first | exact HB.out | apply below_alloc | apply pw_below_drewN | apply below_drew1) | exact HB.out)) hb); clear HB; have HO287 := n0_; have HB := n1_; clear n0_ n1_; clear hb ho15; obtain ⟨Ao16, co16, eo16⟩ := Kd.R_slice HO287.out; subst eo16) | ((with_reducible refine gate_dst (N := 10) rfl ?_); (try (refine gate_guard (by rfl) ?_; dsimp only)); refine Kd.N_lit k41 _ 41 ?hg (N' := 10) ?hd (xs := ([(⟨0, 1, 0, 1, y285⟩ : S41)] : List (S41))) (inner := [.int .i64 0, .int .i64 1, .int .i64 0, .int .i64 1, .slice Ao16 y285.length co16]) (ok := (fun _ => True)) (okp := (fun _ => True)) ?hr ?hp (fun _ hk => hk) ((show ∀ k_, w14.heap.size ≤ k_ → (fun _ => True) k_ from fun k_ hk => trivial) _ (Nat.le_refl _)) (Below.refl _ _) (Nat.le_refl _) (by simp) ?_; (case hd => rfl); (case hg => rfl); (case hr => first | (go_simp; done) | (go_simp; rfl)); (case hp => exact (Reps.c5 (show Kd.FK k41 _ _ (⟨0, 1, 0, 1, y285⟩ : S41) [.int .i64 0, .int .i64 1, .int .i64 0, .int .i64 1, .slice Ao16 y285.length co16] from (k41_mkF _ _ (⟨0, 1, 0, 1, y285⟩ : S41) (Kd.R_reads' (Kd.R_mono (ok' := (fun _ => True)) (HO287.out) (fun k_ hk => trivial))).2.1 (Kd.R_F (Kd.R_mono (ok' := (fun _ => True)) (HO287.out) (fun k_ hk => trivial))))) (Reps.none _ _))); intro v289 w17 ho18 hb hg_ hnew_; clear hg_ hnew_; (first | rw [← Ny288.out] at ho18 | (simp only [Int.reduceToNat] at ho18; rw [← Ny288.out] at ho18)); have n0_ := Aside0.mk (Kd.N_lower ho18 (below_size (by repeat (first | (with_reducible first | exact HB.out | apply below_alloc | apply pw_below_drewN | apply below_drew1) | exact HB.out)))); have n1_ := Aside0.mk (below_step (by repeat (first | (with_reducible first | exact HB.out | apply below_alloc | apply pw_below_drewN | apply below_drew1) | exact HB.out)) hb); clear HB; clear HO287; have HO290 := n0_; have HB := n1_; clear n0_ n1_; clear hb ho18) | ((with_reducible refine gate_dst (N := 12) rfl ?_); (try (refine gate_guard (by rfl) ?_; dsimp only)); refine Kd.R_lit Kd.string _ 9 ?hg (N := 12) ?hd (xs := ([(⟨#[97]⟩ : ByteArray)] : List ByteArray)) (inner := [.string (⟨#[97]⟩ : ByteArray)]) (ok := fun _ => True) (okp := fun _ => True) ?hr ?hp (fun _ hk => hk) trivial (Below.refl _ _) (Nat.le_refl _) (by simp) ?_; (case hd => rfl); (case hg => rfl); (case hr => first | (go_simp; done) | (go_simp; rfl)); (case hp => exact (Reps.one (show Kd.M Kd.string _ _ _ (⟨#[97]⟩ : ByteArray) [.string (⟨#[97]⟩ : ByteArray)] from rfl) (Reps.none _ _))); intro v292 w19 ho20 hb hg_ hnew_; clear hg_ hnew_; (first | rw [← Ny291.out] at ho20 | (simp only [Int.reduceToNat] at ho20; rw [← Ny291.out] at ho20)); have n0_ := Aside0.mk (Kd.N_elder' (by (with_reducible repeat (first | apply Kd.N_alloc | apply Kd.N_drewN | apply Kd.N_drew)); exact HO290.out) (Kd.R_base ho20) hb); have n1_ := Aside0.mk (Kd.R_lower ho20 (below_size (by repeat (first | (with_reducible first | exact HB.out | apply below_alloc | apply pw_below_drewN | apply below_drew1) | exact HB.out)))); have n2_ := Aside0.mk (below_step (by repeat (first | (with_reducible first | exact HB.out | apply below_alloc | apply pw_below_drewN | apply below_drew1) | exact HB.out)) hb); clear HO290; clear HB; have HO290 := n0_; have HO293 := n1_; have HB := n2_; clear n0_ n1_ n2_; clear hb ho20; obtain ⟨Ao21, co21, eo21⟩ := Kd.R_slice HO293.out; subst eo21; obtain ⟨Ao22, co22, eo22⟩ := Kd.N_slice HO290.out; subst eo22) | ((with_reducible refine gate_callee (f := 12) rfl ?_); refine goesL_ (some 14) rfl rfl Try.func12 (by kernel_rfl) rfl #[.slice Ao21 y291.length co21, .slice Ao22 y288.length co22] rfl (by (try simp only [List.map_toArray, List.map_cons, List.map_nil]); first | done | rfl | (simp only [List.length_drop, List.length_take]; rfl)) ?_; (with_reducible refine (apply_Apply.calls _ _ y291 _ _ y288 t294 t295 _ ?side1 ?side2 ?side3 ?side4 A1.out).mono ?_); (case side1 => repeat (first | exact (Kd.R_reads' HO293.out).2.2 | (with_reducible refine Kd.C_alloc ?_ _) | (with_reducible refine Kd.C_drewN ?_ _) | (with_reducible refine Kd.C_drew ?_))); (case side2 => exact (Kd.R_reads' HO293.out).2.1); (case side3 => repeat (first | exact (Kd.N_reads' HO290.out).2.2 | (with_reducible refine Kd.C_alloc ?_ _) | (with_reducible refine Kd.C_drewN ?_ _) | (with_reducible refine Kd.C_drew ?_))); (case side4 => exact (Kd.N_reads' HO290.out).2.1); rintro e w23 ⟨v296, rfl, ho0, hb⟩; refine ⟨_, rfl, ?_⟩; have n0_ := Aside0.mk (Kd.N_elder' (by (with_reducible repeat (first | apply Kd.N_alloc | apply Kd.N_drewN | apply Kd.N_drew)); exact HO290.out) (Kd.R_base ho0) hb); have n1_ := Aside0.mk (Kd.R_elder' (by (with_reducible repeat (first | apply Kd.R_alloc | apply Kd.R_drewN | apply Kd.R_drew)); exact HO293.out) (Kd.R_base ho0) hb); have n2_ := Aside0.mk (Kd.R_lower (Kd.R_new' ho0 (Kd.R_lt (by (with_reducible repeat (first | apply Kd.R_alloc | apply Kd.R_drewN | apply Kd.R_drew)); exact HO293.out))) (below_size (by repeat (first | (with_reducible first | exact HB.out | apply below_alloc | apply pw_below_drewN | apply below_drew1) | exact HB.out)))); have n3_ := Aside0.mk (below_step (by repeat (first | (with_reducible first | exact HB.out | apply below_alloc | apply pw_below_drewN | apply below_drew1) | exact HB.out)) hb); clear HO290; clear HO293; clear HB; have HO290 := n0_; have HO293 := n1_; have HO297 := n2_; have HB := n3_; clear n0_ n1_ n2_ n3_; (try clear hb); (try clear hb2); (try clear hk); (try clear hi); (try clear ho0)) | ((with_reducible refine gate_dst (N := 18) rfl ?_); (try (refine gate_guard (by rfl) ?_; dsimp only)); refine Kd.R_lit Kd.string _ 9 ?hg (N := 18) ?hd (xs := ([(⟨#[99]⟩ : ByteArray)] : List ByteArray)) (inner := [.string (⟨#[99]⟩ : ByteArray)]) (ok := fun _ => True) (okp := fun _ => True) ?hr ?hp (fun _ hk => hk) trivial (Below.refl _ _) (Nat.le_refl _) (by simp) ?_; (case hd => rfl); (case hg => rfl); (case hr => first | (go_simp; done) | (go_simp; rfl)); (case hp => exact (Reps.one (show Kd.M Kd.string _ _ _ (⟨#[99]⟩ : ByteArray) [.string (⟨#[99]⟩ : ByteArray)] from rfl) (Reps.none _ _))); intro v299 w24 ho25 hb hg_ hnew_; clear hg_ hnew_; (first | rw [← Ny298.out] at ho25 | (simp only [Int.reduceToNat] at ho25; rw [← Ny298.out] at ho25)); have n0_ := Aside0.mk (Kd.N_elder' (by (with_reducible repeat (first | apply Kd.N_alloc | apply Kd.N_drewN | apply Kd.N_drew)); exact HO290.out) (Kd.R_base ho25) hb); have n1_ := Aside0.mk (Kd.R_elder' (by (with_reducible repeat (first | apply Kd.R_alloc | apply Kd.R_drewN | apply Kd.R_drew)); exact HO293.out) (Kd.R_base ho25) hb); have n2_ := Aside0.mk (Kd.R_elder' (by (with_reducible repeat (first | apply Kd.R_alloc | apply Kd.R_drewN | apply Kd.R_drew)); exact HO297.out) (Kd.R_base ho25) hb); have n3_ := Aside0.mk (Kd.R_lower (Kd.R_new' (Kd.R_new' ho25 (Kd.R_lt (by (with_reducible repeat (first | apply Kd.R_alloc | apply Kd.R_drewN | apply Kd.R_drew)); exact HO293.out))) (Kd.R_lt (by (with_reducible repeat (first | apply Kd.R_alloc | apply Kd.R_drewN | apply Kd.R_drew)); exact HO297.out))) (below_size (by repeat (first | (with_reducible first | exact HB.out | apply below_alloc | apply pw_below_drewN | apply below_drew1) | exact HB.out)))); have n4_ := Aside0.mk (below_step (by repeat (first | (with_reducible first | exact HB.out | apply below_alloc | apply pw_below_drewN | apply below_drew1) | exact HB.out)) hb); clear HO290; clear HO293; clear HO297; clear HB; have HO290 := n0_; have HO293 := n1_; have HO297 := n2_; have HO300 := n3_; have HB := n4_; clear n0_ n1_ n2_ n3_ n4_; clear hb ho25; obtain ⟨Ao26, co26, eo26⟩ := Kd.R_slice HO300.out; subst eo26) | ((with_reducible refine gate_callee (f := 12) rfl ?_); refine goesL_ (some 20) rfl rfl Try.func12 (by kernel_rfl) rfl #[.slice Ao26 y298.length co26, .slice Ao22 y288.length co22] rfl (by (try simp only [List.map_toArray, List.map_cons, List.map_nil]); first | done | rfl | (simp only [List.length_drop, List.length_take]; rfl)) ?_; (with_reducible refine (apply_Apply.calls _ _ y298 _ _ y288 t301 t302 _ ?side1 ?side2 ?side3 ?side4 A2.out).mono ?_); (case side1 => repeat (first | exact (Kd.R_reads' HO300.out).2.2 | (with_reducible refine Kd.C_alloc ?_ _) | (with_reducible refine Kd.C_drewN ?_ _) | (with_reducible refine Kd.C_drew ?_))); (case side2 => exact (Kd.R_reads' HO300.out).2.1); (case side3 => repeat (first | exact (Kd.N_reads' HO290.out).2.2 | (with_reducible refine Kd.C_alloc ?_ _) | (with_reducible refine Kd.C_drewN ?_ _) | (with_reducible refine Kd.C_drew ?_))); (case side4 => exact (Kd.N_reads' HO290.out).2.1); rintro e w27 ⟨v303, rfl, ho0, hb⟩; refine ⟨_, rfl, ?_⟩; have n0_ := Aside0.mk (Kd.N_elder' (by (with_reducible repeat (first | apply Kd.N_alloc | apply Kd.N_drewN | apply Kd.N_drew)); exact HO290.out) (Kd.R_base ho0) hb); have n1_ := Aside0.mk (Kd.R_elder' (by (with_reducible repeat (first | apply Kd.R_alloc | apply Kd.R_drewN | apply Kd.R_drew)); exact HO293.out) (Kd.R_base ho0) hb); have n2_ := Aside0.mk (Kd.R_elder' (by (with_reducible repeat (first | apply Kd.R_alloc | apply Kd.R_drewN | apply Kd.R_drew)); exact HO297.out) (Kd.R_base ho0) hb); have n3_ := Aside0.mk (Kd.R_elder' (by (with_reducible repeat (first | apply Kd.R_alloc | apply Kd.R_drewN | apply Kd.R_drew)); exact HO300.out) (Kd.R_base ho0) hb); have n4_ := Aside0.mk (Kd.R_lower (Kd.R_new' (Kd.R_new' (Kd.R_new' ho0 (Kd.R_lt (by (with_reducible repeat (first | apply Kd.R_alloc | apply Kd.R_drewN | apply Kd.R_drew)); exact HO293.out))) (Kd.R_lt (by (with_reducible repeat (first | apply Kd.R_alloc | apply Kd.R_drewN | apply Kd.R_drew)); exact HO297.out))) (Kd.R_lt (by (with_reducible repeat (first | apply Kd.R_alloc | apply Kd.R_drewN | apply Kd.R_drew)); exact HO300.out))) (below_size (by repeat (first | (with_reducible first | exact HB.out | apply below_alloc | apply pw_below_drewN | apply below_drew1) | exact HB.out)))); have n5_ := Aside0.mk (below_step (by repeat (first | (with_reducible first | exact HB.out | apply below_alloc | apply pw_below_drewN | apply below_drew1) | exact HB.out)) hb); clear HO290; clear HO293; clear HO297; clear HO300; clear HB; have HO290 := n0_; have HO293 := n1_; have HO297 := n2_; have HO300 := n3_; have HO304 := n4_; have HB := n5_; clear n0_ n1_ n2_ n3_ n4_ n5_; (try clear hb); (try clear hb2); (try clear hk); (try clear hi); (try clear ho0)) | ((with_reducible refine gate_dst (N := 24) rfl ?_); (try (refine gate_guard (by rfl) ?_; dsimp only)); refine Kd.R_lit Kd.string _ 9 ?hg (N := 24) ?hd (xs := ([(⟨#[97]⟩ : ByteArray)] : List ByteArray)) (inner := [.string (⟨#[97]⟩ : ByteArray)]) (ok := fun _ => True) (okp := fun _ => True) ?hr ?hp (fun _ hk => hk) trivial (Below.refl _ _) (Nat.le_refl _) (by simp) ?_; (case hd => rfl); (case hg => rfl); (case hr => first | (go_simp; done) | (go_simp; rfl)); (case hp => exact (Reps.one (show Kd.M Kd.string _ _ _ (⟨#[97]⟩ : ByteArray) [.string (⟨#[97]⟩ : ByteArray)] from rfl) (Reps.none _ _))); intro v306 w28 ho29 hb hg_ hnew_; clear hg_ hnew_; (first | rw [← Ny305.out] at ho29 | (simp only [Int.reduceToNat] at ho29; rw [← Ny305.out] at ho29)); have n0_ := Aside0.mk (Kd.N_elder' (by (with_reducible repeat (first | apply Kd.N_alloc | apply Kd.N_drewN | apply Kd.N_drew)); exact HO290.out) (Kd.R_base ho29) hb); have n1_ := Aside0.mk (Kd.R_elder' (by (with_reducible repeat (first | apply Kd.R_alloc | apply Kd.R_drewN | apply Kd.R_drew)); exact HO293.out) (Kd.R_base ho29) hb); have n2_ := Aside0.mk (Kd.R_elder' (by (with_reducible repeat (first | apply Kd.R_alloc | apply Kd.R_drewN | apply Kd.R_drew)); exact HO297.out) (Kd.R_base ho29) hb); have n3_ := Aside0.mk (Kd.R_elder' (by (with_reducible repeat (first | apply Kd.R_alloc | apply Kd.R_drewN | apply Kd.R_drew)); exact HO300.out) (Kd.R_base ho29) hb); have n4_ := Aside0.mk (Kd.R_elder' (by (with_reducible repeat (first | apply Kd.R_alloc | apply Kd.R_drewN | apply Kd.R_drew)); exact HO304.out) (Kd.R_base ho29) hb); have n5_ := Aside0.mk (Kd.R_lower (Kd.R_new' (Kd.R_new' (Kd.R_new' (Kd.R_new' ho29 (Kd.R_lt (by (with_reducible repeat (first | apply Kd.R_alloc | apply Kd.R_drewN | apply Kd.R_drew)); exact HO293.out))) (Kd.R_lt (by (with_reducible repeat (first | apply Kd.R_alloc | apply Kd.R_drewN | apply Kd.R_drew)); exact HO297.out))) (Kd.R_lt (by (with_reducible repeat (first | apply Kd.R_alloc | apply Kd.R_drewN | apply Kd.R_drew)); exact HO300.out))) (Kd.R_lt (by (with_reducible repeat (first | apply Kd.R_alloc | apply Kd.R_drewN | apply Kd.R_drew)); exact HO304.out))) (below_size (by repeat (first | (with_reducible first | exact HB.out | apply below_alloc | apply pw_below_drewN | apply below_drew1) | exact HB.out)))); have n6_ := Aside0.mk (below_step (by repeat (first | (with_reducible first | exact HB.out | apply below_alloc | apply pw_below_drewN | apply below_drew1) | exact HB.out)) hb); clear HO290; clear HO293; clear HO297; clear HO300; clear HO304; clear HB; have HO290 := n0_; have HO293 := n1_; have HO297 := n2_; have HO300 := n3_; have HO304 := n4_; have HO307 := n5_; have HB := n6_; clear n0_ n1_ n2_ n3_ n4_ n5_ n6_; clear hb ho29) | ((with_reducible refine gate_dst (N := 25) rfl ?_); (try (refine gate_guard (by rfl) ?_; dsimp only)); refine Kd.R_lit Kd.string _ 9 ?hg (N := 25) ?hd (xs := ([(⟨#[98]⟩ : ByteArray)] : List ByteArray)) (inner := [.string (⟨#[98]⟩ : ByteArray)]) (ok := fun _ => True) (okp := fun _ => True) ?hr ?hp (fun _ hk => hk) trivial (Below.refl _ _) (Nat.le_refl _) (by simp) ?_; (case hd => rfl); (case hg => rfl); (case hr => first | (go_simp; done) | (go_simp; rfl)); (case hp => exact (Reps.one (show Kd.M Kd.string _ _ _ (⟨#[98]⟩ : ByteArray) [.string (⟨#[98]⟩ : ByteArray)] from rfl) (Reps.none _ _))); intro v309 w30 ho31 hb hg_ hnew_; clear hg_ hnew_; (first | rw [← Ny308.out] at ho31 | (simp only [Int.reduceToNat] at ho31; rw [← Ny308.out] at ho31)); have n0_ := Aside0.mk (Kd.N_elder' (by (with_reducible repeat (first | apply Kd.N_alloc | apply Kd.N_drewN | apply Kd.N_drew)); exact HO290.out) (Kd.R_base ho31) hb); have n1_ := Aside0.mk (Kd.R_elder' (by (with_reducible repeat (first | apply Kd.R_alloc | apply Kd.R_drewN | apply Kd.R_drew)); exact HO293.out) (Kd.R_base ho31) hb); have n2_ := Aside0.mk (Kd.R_elder' (by (with_reducible repeat (first | apply Kd.R_alloc | apply Kd.R_drewN | apply Kd.R_drew)); exact HO297.out) (Kd.R_base ho31) hb); have n3_ := Aside0.mk (Kd.R_elder' (by (with_reducible repeat (first | apply Kd.R_alloc | apply Kd.R_drewN | apply Kd.R_drew)); exact HO300.out) (Kd.R_base ho31) hb); have n4_ := Aside0.mk (Kd.R_elder' (by (with_reducible repeat (first | apply Kd.R_alloc | apply Kd.R_drewN | apply Kd.R_drew)); exact HO304.out) (Kd.R_base ho31) hb); have n5_ := Aside0.mk (Kd.R_elder' (by (with_reducible repeat (first | apply Kd.R_alloc | apply Kd.R_drewN | apply Kd.R_drew)); exact HO307.out) (Kd.R_base ho31) hb); have n6_ := Aside0.mk (Kd.R_lower (Kd.R_new' (Kd.R_new' (Kd.R_new' (Kd.R_new' (Kd.R_new' ho31 (Kd.R_lt (by (with_reducible repeat (first | apply Kd.R_alloc | apply Kd.R_drewN | apply Kd.R_drew)); exact HO293.out))) (Kd.R_lt (by (with_reducible repeat (first | apply Kd.R_alloc | apply Kd.R_drewN | apply Kd.R_drew)); exact HO297.out))) (Kd.R_lt (by (with_reducible repeat (first | apply Kd.R_alloc | apply Kd.R_drewN | apply Kd.R_drew)); exact HO300.out))) (Kd.R_lt (by (with_reducible repeat (first | apply Kd.R_alloc | apply Kd.R_drewN | apply Kd.R_drew)); exact HO304.out))) (Kd.R_lt (by (with_reducible repeat (first | apply Kd.R_alloc | apply Kd.R_drewN | apply Kd.R_drew)); exact HO307.out))) (below_size (by repeat (first | (with_reducible first | exact HB.out | apply below_alloc | apply pw_below_drewN | apply below_drew1) | exact HB.out)))); have n7_ := Aside0.mk (below_step (by repeat (first | (with_reducible first | exact HB.out | apply below_alloc | apply pw_below_drewN | apply below_drew1) | exact HB.out)) hb); clear HO290; clear HO293; clear HO297; clear HO300; clear HO304; clear HO307; clear HB; have HO290 := n0_; have HO293 := n1_; have HO297 := n2_; have HO300 := n3_; have HO304 := n4_; have HO307 := n5_; have HO310 := n6_; have HB := n7_; clear n0_ n1_ n2_ n3_ n4_ n5_ n6_ n7_; clear hb ho31; obtain ⟨Ao32, co32, eo32⟩ := Kd.R_slice HO307.out; subst eo32; obtain ⟨Ao33, co33, eo33⟩ := Kd.R_slice HO310.out; subst eo33) | ((with_reducible refine gate_callee (f := 20) rfl ?_); refine goesL_ (some 26) rfl rfl Try.func20 (by kernel_rfl) rfl #[.slice Ao32 y305.length co32, .slice Ao33 y308.length co33, .int .i64 0] rfl (by (try simp only [List.map_toArray, List.map_cons, List.map_nil]); first | done | rfl | (simp only [List.length_drop, List.length_take]; rfl)) ?_; (with_reducible refine (apply_Between.calls k _ _ y305 _ _ y308 0 t311 t312 _ ?side1 ?side2 ?side3 ?side4 A3.out).mono ?_); (case side1 => repeat (first | exact (Kd.R_reads' HO307.out).2.2 | (with_reducible refine Kd.C_alloc ?_ _) | (with_reducible refine Kd.C_drewN ?_ _) | (with_reducible refine Kd.C_drew ?_))); (case side2 => exact (Kd.R_reads' HO307.out).2.1); (case side3 => repeat (first | exact (Kd.R_reads' HO310.out).2.2 | (with_reducible refine Kd.C_alloc ?_ _) | (with_reducible refine Kd.C_drewN ?_ _) | (with_reducible refine Kd.C_drew ?_))); (case side4 => exact (Kd.R_reads' HO310.out).2.1); rintro e w34 ⟨v313, rfl, ho0, hb⟩; refine ⟨_, rfl, ?_⟩; have n0_ := Aside0.mk (Kd.N_elder' (by (with_reducible repeat (first | apply Kd.N_alloc | apply Kd.N_drewN | apply Kd.N_drew)); exact HO290.out) (by first | exact Kd.N_base ho0 | exact Kd.S_base ho0) hb); have n1_ := Aside0.mk (Kd.R_below (by (with_reducible repeat (first | apply Kd.R_alloc | apply Kd.R_drewN | apply Kd.R_drew)); exact HO293.out) hb); have n2_ := Aside0.mk (Kd.R_below (by (with_reducible repeat (first | apply Kd.R_alloc | apply Kd.R_drewN | apply Kd.R_drew)); exact HO297.out) hb); have n3_ := Aside0.mk (Kd.R_below (by (with_reducible repeat (first | apply Kd.R_alloc | apply Kd.R_drewN | apply Kd.R_drew)); exact HO300.out) hb); have n4_ := Aside0.mk (Kd.R_below (by (with_reducible repeat (first | apply Kd.R_alloc | apply Kd.R_drewN | apply Kd.R_drew)); exact HO304.out) hb); have n5_ := Aside0.mk (Kd.R_below (by (with_reducible repeat (first | apply Kd.R_alloc | apply Kd.R_drewN | apply Kd.R_drew)); exact HO307.out) hb); have n6_ := Aside0.mk (Kd.R_below (by (with_reducible repeat (first | apply Kd.R_alloc | apply Kd.R_drewN | apply Kd.R_drew)); exact HO310.out) hb); have n7_ := Aside0.mk (Kd.N_lower (Kd.N_mono (ok' := fun k_ => some k_ ≠ (.slice Ao22 y288.length co22 : Value).ownBlock ∧ some k_ ≠ (.slice Ao21 y291.length co21 : Value).ownBlock ∧ some k_ ≠ (v296 : Value).ownBlock ∧ some k_ ≠ (.slice Ao26 y298.length co26 : Value).ownBlock ∧ some k_ ≠ (v303 : Value).ownBlock ∧ some k_ ≠ (.slice Ao32 y305.length co32 : Value).ownBlock ∧ some k_ ≠ (.slice Ao33 y308.length co33 : Value).ownBlock) (Kd.S_N (Kd.S_bound ho0)) (fun k_ hk_ => ⟨(Kd.fresh' (Kd.N_lt (by (with_reducible repeat (first | apply Kd.N_alloc | apply Kd.N_drewN | apply Kd.N_drew)); exact HO290.out)) k_ hk_.2.1), (Kd.fresh' (Kd.R_lt (by (with_reducible repeat (first | apply Kd.R_alloc | apply Kd.R_drewN | apply Kd.R_drew)); exact HO293.out)) k_ hk_.2.1), (Kd.fresh' (Kd.R_lt (by (with_reducible repeat (first | apply Kd.R_alloc | apply Kd.R_drewN | apply Kd.R_drew)); exact HO297.out)) k_ hk_.2.1), (Kd.fresh' (Kd.R_lt (by (with_reducible repeat (first | apply Kd.R_alloc | apply Kd.R_drewN | apply Kd.R_drew)); exact HO300.out)) k_ hk_.2.1), (Kd.fresh' (Kd.R_lt (by (with_reducible repeat (first | apply Kd.R_alloc | apply Kd.R_drewN | apply Kd.R_drew)); exact HO304.out)) k_ hk_.2.1), (Kd.fresh' (Kd.R_lt (by (with_reducible repeat (first | apply Kd.R_alloc | apply Kd.R_drewN | apply Kd.R_drew)); exact HO307.out)) k_ hk_.2.1), (Kd.fresh' (Kd.R_lt (by (with_reducible repeat (first | apply Kd.R_alloc | apply Kd.R_drewN | apply Kd.R_drew)); exact HO310.out)) k_ hk_.2.1)⟩)) (below_size (by repeat (first | (with_reducible first | exact HB.out | apply below_alloc | apply pw_below_drewN | apply below_drew1) | exact HB.out)))); have n8_ := Aside0.mk (below_step (by repeat (first | (with_reducible first | exact HB.out | apply below_alloc | apply pw_below_drewN | apply below_drew1) | exact HB.out)) hb); clear HO290; clear HO293; clear HO297; clear HO300; clear HO304; clear HO307; clear HO310; clear HB; have HO290 := n0_; have HO293 := n1_; have HO297 := n2_; have HO300 := n3_; have HO304 := n4_; have HO307 := n5_; have HO310 := n6_; have HO314 := n7_; have HB := n8_; clear n0_ n1_ n2_ n3_ n4_ n5_ n6_ n7_ n8_; (try clear hb); (try clear hb2); (try clear hk); (try clear hi); (try clear ho0)) | ((with_reducible refine gate_dst (N := 33) rfl ?_); (try (refine gate_guard (by rfl) ?_; dsimp only)); refine Kd.R_lit Kd.string _ 9 ?hg (N := 33) ?hd (xs := ([(⟨#[98]⟩ : ByteArray)] : List ByteArray)) (inner := [.string (⟨#[98]⟩ : ByteArray)]) (ok := fun _ => True) (okp := fun _ => True) ?hr ?hp (fun _ hk => hk) trivial (Below.refl _ _) (Nat.le_refl _) (by simp) ?_; (case hd => rfl); (case hg => rfl); (case hr => first | (go_simp; done) | (go_simp; rfl)); (case hp => exact (Reps.one (show Kd.M Kd.string _ _ _ (⟨#[98]⟩ : ByteArray) [.string (⟨#[98]⟩ : ByteArray)] from rfl) (Reps.none _ _))); intro v316 w35 ho36 hb hg_ hnew_; clear hg_ hnew_; (first | rw [← Ny315.out] at ho36 | (simp only [Int.reduceToNat] at ho36; rw [← Ny315.out] at ho36)); have n0_ := Aside0.mk (Kd.N_elder' (by (with_reducible repeat (first | apply Kd.N_alloc | apply Kd.N_drewN | apply Kd.N_drew)); exact HO290.out) (Kd.R_base ho36) hb); have n1_ := Aside0.mk (Kd.R_elder' (by (with_reducible repeat (first | apply Kd.R_alloc | apply Kd.R_drewN | apply Kd.R_drew)); exact HO293.out) (Kd.R_base ho36) hb); have n2_ := Aside0.mk (Kd.R_elder' (by (with_reducible repeat (first | apply Kd.R_alloc | apply Kd.R_drewN | apply Kd.R_drew)); exact HO297.out) (Kd.R_base ho36) hb); have n3_ := Aside0.mk (Kd.R_elder' (by (with_reducible repeat (first | apply Kd.R_alloc | apply Kd.R_drewN | apply Kd.R_drew)); exact HO300.out) (Kd.R_base ho36) hb); have n4_ := Aside0.mk (Kd.R_elder' (by (with_reducible repeat (first | apply Kd.R_alloc | apply Kd.R_drewN | apply Kd.R_drew)); exact HO304.out) (Kd.R_base ho36) hb); have n5_ := Aside0.mk (Kd.R_elder' (by (with_reducible repeat (first | apply Kd.R_alloc | apply Kd.R_drewN | apply Kd.R_drew)); exact HO307.out) (Kd.R_base ho36) hb); have n6_ := Aside0.mk (Kd.R_elder' (by (with_reducible repeat (first | apply Kd.R_alloc | apply Kd.R_drewN | apply Kd.R_drew)); exact HO310.out) (Kd.R_base ho36) hb); have n7_ := Aside0.mk (Kd.N_elder' (by (with_reducible repeat (first | apply Kd.N_alloc | apply Kd.N_drewN | apply Kd.N_drew)); exact HO314.out) (Kd.R_base ho36) hb); have n8_ := Aside0.mk (Kd.R_lower (Kd.R_new' (Kd.R_new' (Kd.R_new' (Kd.R_new' (Kd.R_new' (Kd.R_new' ho36 (Kd.R_lt (by (with_reducible repeat (first | apply Kd.R_alloc | apply Kd.R_drewN | apply Kd.R_drew)); exact HO293.out))) (Kd.R_lt (by (with_reducible repeat (first | apply Kd.R_alloc | apply Kd.R_drewN | apply Kd.R_drew)); exact HO297.out))) (Kd.R_lt (by (with_reducible repeat (first | apply Kd.R_alloc | apply Kd.R_drewN | apply Kd.R_drew)); exact HO300.out))) (Kd.R_lt (by (with_reducible repeat (first | apply Kd.R_alloc | apply Kd.R_drewN | apply Kd.R_drew)); exact HO304.out))) (Kd.R_lt (by (with_reducible repeat (first | apply Kd.R_alloc | apply Kd.R_drewN | apply Kd.R_drew)); exact HO307.out))) (Kd.R_lt (by (with_reducible repeat (first | apply Kd.R_alloc | apply Kd.R_drewN | apply Kd.R_drew)); exact HO310.out))) (below_size (by repeat (first | (with_reducible first | exact HB.out | apply below_alloc | apply pw_below_drewN | apply below_drew1) | exact HB.out)))); have n9_ := Aside0.mk (below_step (by repeat (first | (with_reducible first | exact HB.out | apply below_alloc | apply pw_below_drewN | apply below_drew1) | exact HB.out)) hb); clear HO290; clear HO293; clear HO297; clear HO300; clear HO304; clear HO307; clear HO310; clear HO314; clear HB; have HO290 := n0_; have HO293 := n1_; have HO297 := n2_; have HO300 := n3_; have HO304 := n4_; have HO307 := n5_; have HO310 := n6_; have HO314 := n7_; have HO317 := n8_; have HB := n9_; clear n0_ n1_ n2_ n3_ n4_ n5_ n6_ n7_ n8_ n9_; clear hb ho36; obtain ⟨Ao37, co37, eo37⟩ := Kd.R_slice HO297.out; subst eo37; obtain ⟨Ao38, co38, eo38⟩ := Kd.R_slice HO317.out; subst eo38) | (go_at_call 14; (with_reducible refine (grapevineref01_Texts.calls k _ _ t294 _ _ y315 true _ ?side1 ?side2 ?side3 ?side4 A5.out).mono ?_); (case side1 => repeat (first | exact (Kd.R_reads' HO297.out).2.2 | (with_reducible refine Kd.C_alloc ?_ _) | (with_reducible refine Kd.C_drewN ?_ _) | (with_reducible refine Kd.C_drew ?_))); (case side2 => exact (Kd.R_reads' HO297.out).2.1); (case side3 => repeat (first | exact (Kd.R_reads' HO317.out).2.2 | (with_reducible refine Kd.C_alloc ?_ _) | (with_reducible refine Kd.C_drewN ?_ _) | (with_reducible refine Kd.C_drew ?_))); (case side4 => exact (Kd.R_reads' HO317.out).2.1); rintro e w' ⟨rfl, ⟨nd, rfl⟩⟩; obtain ⟨Ao39, co39, eo39⟩ := Kd.N_slice HO314.out; subst eo39) | (go_at_call 17; (with_reducible refine (grapevineref05_Same.calls k _ _ t311 _ _ y288 true _ ?side1 ?side2 ?side3 ?side4 A9.out).mono ?_); (case side1 => repeat (first | exact (Kd.N_reads' HO314.out).2.2 | (with_reducible refine Kd.C_alloc ?_ _) | (with_reducible refine Kd.C_drewN ?_ _) | (with_reducible refine Kd.C_drew ?_))); (case side2 => exact (Kd.N_reads' HO314.out).2.1); (case side3 => repeat (first | exact (Kd.N_reads' HO290.out).2.2 | (with_reducible refine Kd.C_alloc ?_ _) | (with_reducible refine Kd.C_drewN ?_ _) | (with_reducible refine Kd.C_drew ?_))); (case side4 => exact (Kd.N_reads' HO290.out).2.1); rintro e w40 ⟨rfl, hb⟩; have n0_ := Aside0.mk (Kd.N_below (by (with_reducible repeat (first | apply Kd.N_alloc | apply Kd.N_drewN | apply Kd.N_drew)); exact HO290.out) hb); have n1_ := Aside0.mk (Kd.R_below (by (with_reducible repeat (first | apply Kd.R_alloc | apply Kd.R_drewN | apply Kd.R_drew)); exact HO293.out) hb); have n2_ := Aside0.mk (Kd.R_below (by (with_reducible repeat (first | apply Kd.R_alloc | apply Kd.R_drewN | apply Kd.R_drew)); exact HO297.out) hb); have n3_ := Aside0.mk (Kd.R_below (by (with_reducible repeat (first | apply Kd.R_alloc | apply Kd.R_drewN | apply Kd.R_drew)); exact HO300.out) hb); have n4_ := Aside0.mk (Kd.R_below (by (with_reducible repeat (first | apply Kd.R_alloc | apply Kd.R_drewN | apply Kd.R_drew)); exact HO304.out) hb); have n5_ := Aside0.mk (Kd.R_below (by (with_reducible repeat (first | apply Kd.R_alloc | apply Kd.R_drewN | apply Kd.R_drew)); exact HO307.out) hb); have n6_ := Aside0.mk (Kd.R_below (by (with_reducible repeat (first | apply Kd.R_alloc | apply Kd.R_drewN | apply Kd.R_drew)); exact HO310.out) hb); have n7_ := Aside0.mk (Kd.N_below (by (with_reducible repeat (first | apply Kd.N_alloc | apply Kd.N_drewN | apply Kd.N_drew)); exact HO314.out) hb); have n8_ := Aside0.mk (Kd.R_below (by (with_reducible repeat (first | apply Kd.R_alloc | apply Kd.R_drewN | apply Kd.R_drew)); exact HO317.out) hb); have n9_ := Aside0.mk (below_step (by repeat (first | (with_reducible first | exact HB.out | apply below_alloc | apply pw_below_drewN | apply below_drew1) | exact HB.out)) hb); clear HO290; clear HO293; clear HO297; clear HO300; clear HO304; clear HO307; clear HO310; clear HO314; clear HO317; clear HB; have HO290 := n0_; have HO293 := n1_; have HO297 := n2_; have HO300 := n3_; have HO304 := n4_; have HO307 := n5_; have HO310 := n6_; have HO314 := n7_; have HO317 := n8_; have HB := n9_; clear n0_ n1_ n2_ n3_ n4_ n5_ n6_ n7_ n8_ n9_; (try clear hb); (try clear hb2); (try clear hk); (try clear hi)) | (go_at_call 15; (with_reducible refine (apply_Right.calls k _ _ y288 true _ ?side1 ?side2 A11.out).mono ?_); (case side1 => repeat (first | exact (Kd.N_reads' HO290.out).2.2 | (with_reducible refine Kd.C_alloc ?_ _) | (with_reducible refine Kd.C_drewN ?_ _) | (with_reducible refine Kd.C_drew ?_))); (case side2 => exact (Kd.N_reads' HO290.out).2.1); rintro e w41 ⟨rfl, hb⟩; have n0_ := Aside0.mk (Kd.N_below (by (with_reducible repeat (first | apply Kd.N_alloc | apply Kd.N_drewN | apply Kd.N_drew)); exact HO290.out) hb); have n1_ := Aside0.mk (Kd.R_below (by (with_reducible repeat (first | apply Kd.R_alloc | apply Kd.R_drewN | apply Kd.R_drew)); exact HO293.out) hb); have n2_ := Aside0.mk (Kd.R_below (by (with_reducible repeat (first | apply Kd.R_alloc | apply Kd.R_drewN | apply Kd.R_drew)); exact HO297.out) hb); have n3_ := Aside0.mk (Kd.R_below (by (with_reducible repeat (first | apply Kd.R_alloc | apply Kd.R_drewN | apply Kd.R_drew)); exact HO300.out) hb); have n4_ := Aside0.mk (Kd.R_below (by (with_reducible repeat (first | apply Kd.R_alloc | apply Kd.R_drewN | apply Kd.R_drew)); exact HO304.out) hb); have n5_ := Aside0.mk (Kd.R_below (by (with_reducible repeat (first | apply Kd.R_alloc | apply Kd.R_drewN | apply Kd.R_drew)); exact HO307.out) hb); have n6_ := Aside0.mk (Kd.R_below (by (with_reducible repeat (first | apply Kd.R_alloc | apply Kd.R_drewN | apply Kd.R_drew)); exact HO310.out) hb); have n7_ := Aside0.mk (Kd.N_below (by (with_reducible repeat (first | apply Kd.N_alloc | apply Kd.N_drewN | apply Kd.N_drew)); exact HO314.out) hb); have n8_ := Aside0.mk (Kd.R_below (by (with_reducible repeat (first | apply Kd.R_alloc | apply Kd.R_drewN | apply Kd.R_drew)); exact HO317.out) hb); have n9_ := Aside0.mk (below_step (by repeat (first | (with_reducible first | exact HB.out | apply below_alloc | apply pw_below_drewN | apply below_drew1) | exact HB.out)) hb); clear HO290; clear HO293; clear HO297; clear HO300; clear HO304; clear HO307; clear HO310; clear HO314; clear HO317; clear HB; have HO290 := n0_; have HO293 := n1_; have HO297 := n2_; have HO300 := n3_; have HO304 := n4_; have HO307 := n5_; have HO310 := n6_; have HO314 := n7_; have HO317 := n8_; have HB := n9_; clear n0_ n1_ n2_ n3_ n4_ n5_ n6_ n7_ n8_ n9_; (try clear hb); (try clear hb2); (try clear hk); (try clear hi)) | (go_at_call 18; (with_reducible refine (apply_Turn.calls k _ _ y288 t321 _ ?side1 ?side2 A13.out).mono ?_); (case side1 => repeat (first | exact (Kd.N_reads' HO290.out).2.2 | (with_reducible refine Kd.C_alloc ?_ _) | (with_reducible refine Kd.C_drewN ?_ _) | (with_reducible refine Kd.C_drew ?_))); (case side2 => exact (Kd.N_reads' HO290.out).2.1); rintro e w42 ⟨v322, rfl, ho0, hb⟩; have n0_ := Aside0.mk (Kd.N_elder' (by (with_reducible repeat (first | apply Kd.N_alloc | apply Kd.N_drewN | apply Kd.N_drew)); exact HO290.out) (by first | exact Kd.N_base ho0 | exact Kd.S_base ho0) hb); have n1_ := Aside0.mk (Kd.R_below (by (with_reducible repeat (first | apply Kd.R_alloc | apply Kd.R_drewN | apply Kd.R_drew)); exact HO293.out) hb); have n2_ := Aside0.mk (Kd.R_below (by (with_reducible repeat (first | apply Kd.R_alloc | apply Kd.R_drewN | apply Kd.R_drew)); exact HO297.out) hb); have n3_ := Aside0.mk (Kd.R_below (by (with_reducible repeat (first | apply Kd.R_alloc | apply Kd.R_drewN | apply Kd.R_drew)); exact HO300.out) hb); have n4_ := Aside0.mk (Kd.R_below (by (with_reducible repeat (first | apply Kd.R_alloc | apply Kd.R_drewN | apply Kd.R_drew)); exact HO304.out) hb); have n5_ := Aside0.mk (Kd.R_below (by (with_reducible repeat (first | apply Kd.R_alloc | apply Kd.R_drewN | apply Kd.R_drew)); exact HO307.out) hb); have n6_ := Aside0.mk (Kd.R_below (by (with_reducible repeat (first | apply Kd.R_alloc | apply Kd.R_drewN | apply Kd.R_drew)); exact HO310.out) hb); have n7_ := Aside0.mk (Kd.N_elder' (by (with_reducible repeat (first | apply Kd.N_alloc | apply Kd.N_drewN | apply Kd.N_drew)); exact HO314.out) (by first | exact Kd.N_base ho0 | exact Kd.S_base ho0) hb); have n8_ := Aside0.mk (Kd.R_below (by (with_reducible repeat (first | apply Kd.R_alloc | apply Kd.R_drewN | apply Kd.R_drew)); exact HO317.out) hb); have n9_ := Aside0.mk (Kd.N_lower (Kd.N_mono (ok' := fun k_ => some k_ ≠ (.slice Ao22 y288.length co22 : Value).ownBlock ∧ some k_ ≠ (.slice Ao21 y291.length co21 : Value).ownBlock ∧ some k_ ≠ (.slice Ao37 t294.length co37 : Value).ownBlock ∧ some k_ ≠ (.slice Ao26 y298.length co26 : Value).ownBlock ∧ some k_ ≠ (v303 : Value).ownBlock ∧ some k_ ≠ (.slice Ao32 y305.length co32 : Value).ownBlock ∧ some k_ ≠ (.slice Ao33 y308.length co33 : Value).ownBlock ∧ some k_ ≠ (.slice Ao39 t311.length co39 : Value).ownBlock ∧ some k_ ≠ (.slice Ao38 y315.length co38 : Value).ownBlock) (Kd.S_N (Kd.S_bound ho0)) (fun k_ hk_ => ⟨(Kd.fresh' (Kd.N_lt (by (with_reducible repeat (first | apply Kd.N_alloc | apply Kd.N_drewN | apply Kd.N_drew)); exact HO290.out)) k_ hk_.2.1), (Kd.fresh' (Kd.R_lt (by (with_reducible repeat (first | apply Kd.R_alloc | apply Kd.R_drewN | apply Kd.R_drew)); exact HO293.out)) k_ hk_.2.1), (Kd.fresh' (Kd.R_lt (by (with_reducible repeat (first | apply Kd.R_alloc | apply Kd.R_drewN | apply Kd.R_drew)); exact HO297.out)) k_ hk_.2.1), (Kd.fresh' (Kd.R_lt (by (with_reducible repeat (first | apply Kd.R_alloc | apply Kd.R_drewN | apply Kd.R_drew)); exact HO300.out)) k_ hk_.2.1), (Kd.fresh' (Kd.R_lt (by (with_reducible repeat (first | apply Kd.R_alloc | apply Kd.R_drewN | apply Kd.R_drew)); exact HO304.out)) k_ hk_.2.1), (Kd.fresh' (Kd.R_lt (by (with_reducible repeat (first | apply Kd.R_alloc | apply Kd.R_drewN | apply Kd.R_drew)); exact HO307.out)) k_ hk_.2.1), (Kd.fresh' (Kd.R_lt (by (with_reducible repeat (first | apply Kd.R_alloc | apply Kd.R_drewN | apply Kd.R_drew)); exact HO310.out)) k_ hk_.2.1), (Kd.fresh' (Kd.N_lt (by (with_reducible repeat (first | apply Kd.N_alloc | apply Kd.N_drewN | apply Kd.N_drew)); exact HO314.out)) k_ hk_.2.1), (Kd.fresh' (Kd.R_lt (by (with_reducible repeat (first | apply Kd.R_alloc | apply Kd.R_drewN | apply Kd.R_drew)); exact HO317.out)) k_ hk_.2.1)⟩)) (below_size (by repeat (first | (with_reducible first | exact HB.out | apply below_alloc | apply pw_below_drewN | apply below_drew1) | exact HB.out)))); have n10_ := Aside0.mk (below_step (by repeat (first | (with_reducible first | exact HB.out | apply below_alloc | apply pw_below_drewN | apply below_drew1) | exact HB.out)) hb); clear HO290; clear HO293; clear HO297; clear HO300; clear HO304; clear HO307; clear HO310; clear HO314; clear HO317; clear HB; have HO290 := n0_; have HO293 := n1_; have HO297 := n2_; have HO300 := n3_; have HO304 := n4_; have HO307 := n5_; have HO310 := n6_; have HO314 := n7_; have HO317 := n8_; have HO323 := n9_; have HB := n10_; clear n0_ n1_ n2_ n3_ n4_ n5_ n6_ n7_ n8_ n9_ n10_; (try clear hb); (try clear hb2); (try clear hk); (try clear hi); (try clear ho0); obtain ⟨Ao43, co43, eo43⟩ := Kd.N_slice HO323.out; subst eo43))
       go_ret
       exact ⟨by first | rfl | (simp [errW_none, errW_some] <;> rfl) | (simp [*, errW_none, errW_some] <;> rfl), by repeat (first | (with_reducible first | exact HB.out | apply below_alloc | apply pw_below_drewN | apply below_drew1) | exact HB.out)⟩
      ·replace c12 := Bool.eq_false_iff.mpr c12
       subst c12
       have H1 : (some false) = some r := by rw [if_neg (show ¬ (false = true) by decide)] at H; exact H
       clear H
       have H := H1
       clear H1
       exact absurd (H.trans (congrArg some hrt_.out)) (by simp)
     ·replace c10 := Bool.eq_false_iff.mpr c10
      subst c10
      have H1 : (some false) = some r := by rw [if_neg (show ¬ (false = true) by decide)] at H; exact H
      clear H
      have H := H1
      clear H1
      exact absurd (H.trans (congrArg some hrt_.out)) (by simp)
    ·rw [if_neg c8] at H
     have c8b0 : (t312 == 0) = false := beq_eq_false_iff_ne.mpr c8
     have c8b1 : (t312 != 0) = true := bne_iff_ne.mpr c8
     exact absurd (H.trans (congrArg some hrt_.out)) (by simp)
   ·rw [if_neg c7] at H
    have c7b0 : (t302 == 6) = false := beq_eq_false_iff_ne.mpr c7
    have c7b1 : (t302 != 6) = true := bne_iff_ne.mpr c7
    exact absurd (H.trans (congrArg some hrt_.out)) (by simp)
  ·replace c6 := Bool.eq_false_iff.mpr c6
   subst c6
   have H1 : (some false) = some r := by rw [if_neg (show ¬ (false = true) by decide)] at H; exact H
   clear H
   have H := H1
   clear H1
   exact absurd (H.trans (congrArg some hrt_.out)) (by simp)
 ·rw [if_neg c4] at H
  have c4b0 : (t295 == 0) = false := beq_eq_false_iff_ne.mpr c4
  have c4b1 : (t295 != 0) = true := bne_iff_ne.mpr c4
  exact absurd (H.trans (congrArg some hrt_.out)) (by simp)
end Go.Proofs.Ytoaijganmfijmaa.Pr
-- shrunk
/-
The chapter's example of layer 7: it answers true.
-/
namespace Go.Proofs.Ytoaijganmfijmaa.Pr
open Go.RowKit Go.Proofs.YtoaijganmfijmaaW.PrintWords Go.Proofs.YtoaijganmfijmaaW.PrintLast Go.Proofs.YtoaijganmfijmaaW.PrintMore
set_option linter.unusedVariables false
set_option linter.unusedSimpArgs false
def grapevinelaw07_awake.f : Option Bool := some true
def ex1 : ByteArray := ⟨#[97]⟩
def ex2 : ByteArray := ⟨#[98]⟩
def ex3 : ByteArray := ⟨#[99]⟩
def exP : Ed := ⟨0, 1, [ex2]⟩
def exQ : Hk := ⟨0, 1, 0, 1, blkLines [⟨[], [ex1], [ex2]⟩] []⟩
theorem exQ_eq : exQ = ⟨0, 1, 0, 1, [(⟨#[45, 97]⟩ : ByteArray), (⟨#[43, 98]⟩ : ByteArray)]⟩ := by
 have hl : blkLines [⟨[], [ex1], [ex2]⟩] [] = [(⟨#[45, 97]⟩ : ByteArray), (⟨#[43, 98]⟩ : ByteArray)] := by decide
 rw [exQ, hl]
theorem exOk : BOk true [⟨[], [ex1], [ex2]⟩] := ⟨Or.inl (by simp), Or.inl rfl, trivial⟩
theorem exTakes : Takes [ex1] [ex2] 0 0 [exQ] := by
 refine ⟨0, 0, [⟨[], [ex1], [ex2]⟩], [], ⟨rfl, Nat.le_refl _, Nat.le_refl _, ?_, ?_, rfl, ?_, ?_, exOk⟩, ?_⟩
 ·simp [oldN]
 ·simp [newN]
 ·simp [oldN, oldL]
 ·simp [newN, newL]
 ·refine ⟨?_, ?_, ?_⟩ <;> simp [oldN, newN]
theorem exBetween : between [ex1] [ex2] = [exP] := by
 have e : ¬ ex1 = ex2 := by decide
 simp [between, midEdits, midOf, endOf, frontOf, common, steps, lcsLen, edits, addDel, addIns, opened, edLast, e, exP]
theorem exMake : makeH [ex1] 0 0 [exP] = [exQ] := by
 have e1 : fromH exP 0 = 0 := rfl
 have e2 : toH [ex1] exP [] 0 = 1 := rfl
 have e3 : linesH [ex1] 0 exP [] = blkLines [⟨[], [ex1], [ex2]⟩] [] := rfl
 rw [makeH, grp, makeH, hunkOf, e1, e2, e3]
 rfl
theorem exLines : exQ.f4.length = 2 := by rw [exQ_eq]; rfl
theorem exSmall (a : List ByteArray) (h : a.length ≤ 65536) : SmallA a [exQ] := by
 refine ⟨h, by simp, fun x hx => ?_⟩
 rw [List.mem_singleton] at hx
 subst hx
 exact ⟨by rw [exLines]; omega, by decide, by decide, by decide, by decide⟩
theorem exYes : apply_Apply.f [ex1] [exQ] = some ([ex2], 0) := by
 rw [apply_Apply.f, if_pos (exSmall _ (by simp)), takes_applyP exTakes]
theorem exNo : apply_Apply.f [ex3] [exQ] = some ([], 6) := by
 have hr := takes_right _ _ _ _ _ exTakes
 have h := (exact_all [ex1] [ex2] 0 ex3 (by simp) (by decide) [exQ] 0 0 [] exTakes (Nat.le_refl _)).1 ⟨exQ, List.mem_singleton.2 rfl, by decide, by decide⟩
 have e : [ex1].set 0 ex3 = [ex3] := rfl
 rw [e] at h
 rw [apply_Apply.f, if_pos (exSmall _ (by simp)), applyP, if_pos (by simpa using hr), h]
theorem exBig : BigL [exQ] := by
 intro x hx
 rw [List.mem_singleton] at hx
 subst hx
 refine ⟨by rw [exLines]; omega, fun s hs => ?_⟩
 rw [exQ_eq] at hs
 simp only [List.mem_cons, List.not_mem_nil, or_false] at hs
 rcases hs with rfl | rfl <;> show 2 ≤ _ <;> omega
theorem awake_ev : Ev (fun k => grapevinelaw07_awake0.f k) true := by
 unfold grapevinelaw07_awake0.f
 rw [← exQ_eq, show (⟨#[97]⟩ : ByteArray) = ex1 from rfl, show (⟨#[98]⟩ : ByteArray) = ex2 from rfl, show (⟨#[99]⟩ : ByteArray) = ex3 from rfl]
 have hm := Make_ev [ex1] [exP] 0 (by simp) (by simp) (by intro s hs; rw [List.mem_singleton] at hs; subst hs; show 1 ≤ _; omega) (by intro e he s hs; rw [List.mem_singleton] at he; subst he; rw [exP, List.mem_singleton] at hs; subst hs; show 1 ≤ _; omega) (by omega) (by omega) (by decide) (by decide)
 rw [exMake] at hm
 have hb : Ev (fun k => apply_Between.f k [ex1] [ex2] 0) ([exQ], 0) := by
  unfold apply_Between.f
  refine Ev.bind (a := [exP]) (Ev.none_of fun _ => by rw [diff_Diff.f, if_pos (by simp), exBetween]) ?_
  refine Ev.bind hm ?_
  exact Ev.now _
 have hr := takes_right _ _ _ _ _ exTakes
 refine Ev.bind (Ev.none_of fun _ => rfl) ?_
 refine Ev.bind (Ev.none_of fun _ => exYes) ?_
 refine Ev.bind (Ev.none_of fun _ => exNo) ?_
 refine Ev.bind hb ?_
 simp only [if_true]
 have ht := Texts_ev [ex2] [ex2] (by simp)
 rw [decide_eq_true rfl] at ht
 refine Ev.bind ht ?_
 simp only [if_true]
 refine Ev.bind (SameH_ev [exQ] (by simp) (by intro x hx; rw [List.mem_singleton] at hx; subst hx; rw [exLines]; omega)) ?_
 simp only [if_true]
 have hri := ARight_ev (exSmall [ex1] (by simp))
 rw [show rightP 0 0 [exQ] = true by simpa using hr] at hri
 refine Ev.bind hri ?_
 simp only [if_true]
 obtain ⟨m, hm1, hm2⟩ := takes_turn _ _ _ _ _ exTakes
 refine Ev.bind (ATurn_ev (exSmall [ex1] (by simp)) exBig (by simpa using hr) hm1) ?_
 rw [turned_len hm1]
 exact Ev.now _
theorem grapevinelaw07_awake.calls (r : Bool) (w : World) (h : grapevinelaw07_awake.f = some r) :
  Calls Try.prog 10 #[] w fun e w' => e = .returned (.bool r) ∧ Below w.heap.size w w' := by
 obtain rfl : true = r := Option.some.inj h
 obtain ⟨k, hk⟩ := awake_ev.rounds
 exact grapevinelaw07_awake0.calls k true w ⟨rfl⟩ hk
end Go.Proofs.Ytoaijganmfijmaa.Pr
-- shrunk
/-
How many lines hunks make.
-/
namespace Go.Proofs.Ytoaijganmfijmaa.Pr
open Go.RowKit Go.Proofs.YtoaijganmfijmaaW.PrintWords Go.Proofs.YtoaijganmfijmaaW.PrintLast Go.Proofs.YtoaijganmfijmaaW.PrintMore
set_option linter.unusedVariables false
set_option linter.unusedSimpArgs false
theorem apply_some {a : List ByteArray} {l : List Hk} (hs : SmallA a l) : apply_Apply.f a l = some (applyP a l) := by rw [apply_Apply.f, if_pos hs]
end Go.Proofs.Ytoaijganmfijmaa.Pr
-- shrunk
/-
Playing and turning edits: plain facts on lists, no program in sight.
-/
namespace Go.Proofs.Ytoaijganmfijmaa.Pr
set_option linter.unusedVariables false
set_option linter.unusedSimpArgs false
def playR (s : List ByteArray) (t : Int) : List Ed → List ByteArray
 | [] => s
 | e :: l => s.take (e.f0 - t).toNat ++ e.f2 ++ playR (s.drop (e.f0 - t + e.f1).toNat) (e.f0 + e.f1) l
theorem playFrom_R (a : List ByteArray) : ∀ (l : List Ed) (fr : Int) (t : Nat), (t : Int) ≤ fr → okFrom fr a.length l = true → playFrom a t l = playR (a.drop t) t l
 | [], fr, t, h, ho => rfl
 | e :: l, fr, t, h, ho => by
  obtain ⟨c1, c2, c3, c4, _, ho'⟩ := okFrom_cons ho
  simp only [playFrom, playR]
  rw [playFrom_R a l _ (e.f0 + e.f1).toNat (by omega) ho', List.drop_take, List.drop_drop, Int.toNat_of_nonneg (by omega), show e.f0.toNat - t = (e.f0 - (t : Int)).toNat by omega, show t + (e.f0 - (t : Int) + e.f1).toNat = (e.f0 + e.f1).toNat by omega]
theorem insE_le : ∀ l : List Ed, (insE l : Int) ≤ sizeE l
 | [] => by simp [insE, sizeE]
 | e :: l => by have := insE_le l; simp only [insE, sizeE]; push_cast; omega
end Go.Proofs.Ytoaijganmfijmaa.Pr
-- shrunk
/-
What is between two lists: it is right, played it is the other one; its size: plain facts on lists.
-/
namespace Go.Proofs.Ytoaijganmfijmaa.Pr
set_option linter.unusedVariables false
set_option linter.unusedSimpArgs false
def edG : Option Ed → Int → List Step → List Ed
 | none, _, [] => []
 | some e, _, [] => [e]
 | none, t, .keep :: r => edG none (t + 1) r
 | some e, t, .keep :: r => e :: edG none (t + 1) r
 | none, t, .del :: r => edG (some ⟨t, 1, []⟩) (t + 1) r
 | some e, t, .del :: r => edG (some ⟨e.f0, e.f1 + 1, e.f2⟩) (t + 1) r
 | none, t, .ins s :: r => edG (some ⟨t, 0, [s]⟩) t r
 | some e, t, .ins s :: r => edG (some ⟨e.f0, e.f1, e.f2 ++ [s]⟩) t r
theorem edLast_snoc (out : List Ed) (e : Ed) : edLast (out ++ [e]) = e := by simp [edLast]
theorem addDel_snoc (out : List Ed) (e : Ed) : addDel (out ++ [e]) = out ++ [⟨e.f0, e.f1 + 1, e.f2⟩] := by
 rw [addDel, edLast_snoc]
 simp
theorem addIns_snoc (s : ByteArray) (out : List Ed) (e : Ed) : addIns s (out ++ [e]) = out ++ [⟨e.f0, e.f1, e.f2 ++ [s]⟩] := by
 rw [addIns, edLast_snoc]
 simp
theorem edits_edG : ∀ (r : List Step) (t : Int) (out : List Ed), edits t false out r = out ++ edG none t r ∧ ∀ e, edits t true (out ++ [e]) r = out ++ edG (some e) t r
 | [], t, out => ⟨by simp [edits, edG], fun e => by simp [edits, edG]⟩
 | .keep :: r, t, out => ⟨by rw [edits, edG]; exact (edits_edG r (t + 1) out).1, fun e => by rw [edits, edG, (edits_edG r (t + 1) (out ++ [e])).1]; simp⟩
 | .del :: r, t, out => ⟨by
   rw [edits, edG, opened, if_neg (by simp), addDel_snoc]
   exact (edits_edG r (t + 1) out).2 _, fun e => by
   rw [edits, edG, opened, if_pos rfl, addDel_snoc]
   exact (edits_edG r (t + 1) out).2 _⟩
 | .ins s :: r, t, out => ⟨by
   rw [edits, edG, opened, if_neg (by simp), addIns_snoc]
   exact (edits_edG r t out).2 _, fun e => by
   rw [edits, edG, opened, if_pos rfl, addIns_snoc]
   exact (edits_edG r t out).2 _⟩
def app : List Step → List ByteArray → List ByteArray
 | [], s => s
 | .keep :: r, x :: s => x :: app r s
 | .keep :: r, [] => app r []
 | .del :: r, _ :: s => app r s
 | .del :: r, [] => app r []
 | .ins y :: r, s => y :: app r s
def cnt : List Step → Nat
 | [] => 0
 | .keep :: r => cnt r + 1
 | .del :: r => cnt r + 1
 | .ins _ :: r => cnt r
def chg : List Step → Nat
 | [] => 0
 | .keep :: r => chg r
 | .del :: r => chg r + 1
 | .ins _ :: r => chg r + 1
theorem play_edG : ∀ (r : List Step) (pre s : List ByteArray) (t : Int), cnt r ≤ s.length →
  playR (pre ++ s) t (edG none (t + pre.length) r) = pre ++ app r s ∧
  ∀ (e : Ed) (D : List ByteArray), e.f0 = t + pre.length → e.f1 = D.length → playR (pre ++ D ++ s) t (edG (some e) (t + pre.length + D.length) r) = pre ++ e.f2 ++ app r s
 | [], pre, s, t, h => ⟨by simp [edG, playR, app], fun e D h0 h1 => by
   simp only [edG, playR, app]
   rw [show (e.f0 - t).toNat = pre.length by omega, show (e.f0 - t + e.f1).toNat = (pre ++ D).length by rw [List.length_append]; omega, List.drop_left, List.append_assoc pre D s, List.take_left]⟩
 | .keep :: r, pre, [], t, h => by simp [cnt] at h
 | .keep :: r, pre, x :: s, t, h => by
  have hc : cnt r ≤ s.length := by simp [cnt] at h; exact h
  refine ⟨?_, fun e D h0 h1 => ?_⟩
  ·have h2 := (play_edG r (pre ++ [x]) s t hc).1
   rw [List.length_append, List.length_singleton] at h2
   rw [edG, app, show t + (pre.length : Int) + 1 = t + ((pre.length + 1 : Nat) : Int) by omega]
   simpa using h2
  ·rw [edG, app]
   simp only [playR]
   have h2 := (play_edG r [x] s (e.f0 + e.f1) hc).1
   rw [show (e.f0 - t).toNat = pre.length by omega, show (e.f0 - t + e.f1).toNat = (pre ++ D).length by rw [List.length_append]; omega, List.drop_left, List.append_assoc pre D, List.take_left]
   rw [show t + (pre.length : Int) + (D.length : Int) + 1 = e.f0 + e.f1 + (([x] : List ByteArray).length : Int) by simp; omega]
   have h3 : playR (x :: s) (e.f0 + e.f1) (edG none (e.f0 + e.f1 + (([x] : List ByteArray).length : Int)) r) = x :: app r s := by simpa using h2
   rw [h3]
 | .del :: r, pre, [], t, h => by simp [cnt] at h
 | .del :: r, pre, x :: s, t, h => by
  have hc : cnt r ≤ s.length := by simp [cnt] at h; exact h
  refine ⟨?_, fun e D h0 h1 => ?_⟩
  ·have h2 := (play_edG r pre s t hc).2 ⟨t + pre.length, 1, []⟩ [x] rfl (by simp)
   rw [edG, app]
   simpa using h2
  ·have h2 := (play_edG r pre s t hc).2 ⟨e.f0, e.f1 + 1, e.f2⟩ (D ++ [x]) h0 (by simp [h1])
   rw [edG, app]
   rw [List.length_append, List.length_singleton] at h2
   rw [show t + (pre.length : Int) + (D.length : Int) + 1 = t + (pre.length : Int) + ((D.length + 1 : Nat) : Int) by omega]
   simpa using h2
 | .ins y :: r, pre, s, t, h => by
  have hc : cnt r ≤ s.length := by simpa [cnt] using h
  refine ⟨?_, fun e D h0 h1 => ?_⟩
  ·have h2 := (play_edG r pre s t hc).2 ⟨t + pre.length, 0, [y]⟩ [] rfl (by simp)
   rw [edG, app]
   simpa using h2
  ·have h2 := (play_edG r pre s t hc).2 ⟨e.f0, e.f1, e.f2 ++ [y]⟩ D h0 h1
   rw [edG, app]
   simpa using h2
theorem ok_edG (many : Int) : ∀ (r : List Step) (fr t : Int), t + cnt r ≤ many →
  (fr ≤ t → okFrom fr many (edG none t r) = true) ∧ ∀ e : Ed, fr ≤ e.f0 → 0 ≤ e.f1 → ¬ (e.f1 = 0 ∧ e.f2 = []) → e.f0 + e.f1 = t → okFrom fr many (edG (some e) t r) = true
 | [], fr, t, h => ⟨fun _ => rfl, fun e h0 h1 h2 h3 => by
   simp only [cnt] at h
   simp only [edG, okFrom, Bool.and_true]
   exact decide_eq_true ⟨h0, h1, by omega, by omega, h2⟩⟩
 | .keep :: r, fr, t, h => ⟨fun hf => by
   simp only [cnt] at h
   rw [edG]
   exact (ok_edG many r fr (t + 1) (by push_cast at h; omega)).1 (by omega), fun e h0 h1 h2 h3 => by
   simp only [cnt] at h
   simp only [edG, okFrom]
   rw [decide_eq_true ⟨h0, h1, by push_cast at h; omega, by push_cast at h; omega, h2⟩, Bool.true_and]
   exact (ok_edG many r _ (t + 1) (by push_cast at h; omega)).1 (by omega)⟩
 | .del :: r, fr, t, h => ⟨fun hf => by
   simp only [cnt] at h
   rw [edG]
   exact (ok_edG many r fr (t + 1) (by push_cast at h; omega)).2 ⟨t, 1, []⟩ hf (by simp) (by simp) rfl, fun e h0 h1 h2 h3 => by
   simp only [cnt] at h
   rw [edG]
   exact (ok_edG many r fr (t + 1) (by push_cast at h; omega)).2 ⟨e.f0, e.f1 + 1, e.f2⟩ h0 (by show 0 ≤ e.f1 + 1; omega) (fun hh => by have : e.f1 + 1 = 0 := hh.1; omega) (by show e.f0 + (e.f1 + 1) = t + 1; omega)⟩
 | .ins y :: r, fr, t, h => ⟨fun hf => by
   simp only [cnt] at h
   rw [edG]
   exact (ok_edG many r fr t h).2 ⟨t, 0, [y]⟩ hf (by simp) (by simp) (by simp), fun e h0 h1 h2 h3 => by
   simp only [cnt] at h
   rw [edG]
   exact (ok_edG many r fr t h).2 ⟨e.f0, e.f1, e.f2 ++ [y]⟩ h0 h1 (by simp) h3⟩
theorem size_edG : ∀ (r : List Step) (t : Int), sizeE (edG none t r) = chg r ∧ ∀ e : Ed, 0 ≤ e.f1 → sizeE (edG (some e) t r) = e.f1 + e.f2.length + chg r
 | [], t => ⟨by simp [edG, sizeE, chg], fun e h => by simp only [edG, sizeE, chg]; omega⟩
 | .keep :: r, t => ⟨by rw [edG, chg]; exact (size_edG r _).1, fun e h => by rw [edG, chg, sizeE, (size_edG r _).1]; omega⟩
 | .del :: r, t => ⟨by rw [edG, chg, (size_edG r _).2 _ (by simp)]; simp; omega, fun e h => by rw [edG, chg, (size_edG r _).2 _ (by show 0 ≤ e.f1 + 1; omega)]; push_cast; omega⟩
 | .ins y :: r, t => ⟨by rw [edG, chg, (size_edG r _).2 _ (by simp)]; simp; omega, fun e h => by rw [edG, chg, (size_edG r _).2 ⟨e.f0, e.f1, e.f2 ++ [y]⟩ h]; simp; omega⟩
theorem steps_app (E : List ByteArray) : ∀ x y : List ByteArray, app (steps x y) (x ++ E) = y ++ E ∧ cnt (steps x y) = x.length
 | [], [] => ⟨by simp [steps, app], by simp [steps, cnt]⟩
 | [], y :: ys => by
  have h := steps_app E [] ys
  rw [steps]
  exact ⟨by rw [app, h.1]; rfl, by rw [cnt, h.2]⟩
 | x :: xs, [] => by
  have h := steps_app E xs []
  rw [steps]
  exact ⟨by rw [List.cons_append, app, h.1], by rw [cnt, h.2]; rfl⟩
 | x :: xs, y :: ys => by
  rw [steps]
  by_cases hxy : x = y
  ·have h := steps_app E xs ys
   rw [if_pos hxy]
   exact ⟨by rw [List.cons_append, app, h.1, hxy]; rfl, by rw [cnt, h.2]; rfl⟩
  ·rw [if_neg hxy]
   split
   ·have h := steps_app E xs (y :: ys)
    exact ⟨by rw [List.cons_append, app, h.1], by rw [cnt, h.2]; rfl⟩
   ·have h := steps_app E (x :: xs) ys
    exact ⟨by rw [app, h.1]; rfl, by rw [cnt, h.2]⟩
termination_by x y => x.length + y.length
theorem lcs_nil (x : List ByteArray) : lcsLen x [] = 0 := by cases x <;> simp [lcsLen]
theorem nil_lcs (y : List ByteArray) : lcsLen [] y = 0 := by simp [lcsLen]
theorem steps_chg : ∀ x y : List ByteArray, chg (steps x y) + 2 * lcsLen x y = x.length + y.length
 | [], [] => by simp [steps, chg, lcsLen]
 | [], y :: ys => by
  have h := steps_chg [] ys
  rw [steps, chg, nil_lcs]
  rw [nil_lcs] at h
  simp at h ⊢
  omega
 | x :: xs, [] => by
  have h := steps_chg xs []
  rw [steps, chg, lcs_nil]
  rw [lcs_nil] at h
  simp at h ⊢
  omega
 | x :: xs, y :: ys => by
  rw [steps, lcsLen]
  by_cases hxy : x = y
  ·have h := steps_chg xs ys
   rw [if_pos hxy, if_pos hxy, chg]
   simp only [List.length_cons]
   omega
  ·rw [if_neg hxy, if_neg hxy]
   have h1 := steps_chg xs (y :: ys)
   have h2 := steps_chg (x :: xs) ys
   simp only [List.length_cons] at h1 h2 ⊢
   split
   ·rw [chg]; omega
   ·rw [chg]; omega
termination_by x y => x.length + y.length
theorem commonE_le : ∀ a b : List ByteArray, common a b ≤ a.length ∧ common a b ≤ b.length ∧ a.take (common a b) = b.take (common a b)
 | [], b => by simp [common]
 | x :: xs, [] => by simp [common]
 | x :: xs, y :: ys => by
  rw [common]
  by_cases h : x = y
  ·have ih := commonE_le xs ys
   rw [if_pos h]
   exact ⟨by simp; exact ih.1, by simp; exact ih.2.1, by rw [List.take_succ_cons, List.take_succ_cons, ih.2.2, h]⟩
  ·rw [if_neg h]; simp
theorem between_split (a b : List ByteArray) : ∃ F x y E, a = F ++ (x ++ E) ∧ b = F ++ (y ++ E) ∧ between a b = midEdits (F.length : Int) x y := by
 obtain ⟨h1, h2, h3⟩ := commonE_le a b
 generalize ha : a.drop (common a b) = a' 
 generalize hb : b.drop (common a b) = b'
 obtain ⟨g1, g2, g3⟩ := commonE_le a'.reverse b'.reverse
 rw [List.length_reverse] at g1 g2
 have hE : a'.drop (a'.length - common a'.reverse b'.reverse) = b'.drop (b'.length - common a'.reverse b'.reverse) := by
  apply List.reverse_inj.1
  rw [List.reverse_drop, List.reverse_drop, show a'.length - (a'.length - common a'.reverse b'.reverse) = common a'.reverse b'.reverse by omega, show b'.length - (b'.length - common a'.reverse b'.reverse) = common a'.reverse b'.reverse by omega]
  exact g3
 refine ⟨a.take (common a b), a'.take (a'.length - common a'.reverse b'.reverse), b'.take (b'.length - common a'.reverse b'.reverse), a'.drop (a'.length - common a'.reverse b'.reverse), ?_, ?_, ?_⟩
 ·rw [List.take_append_drop, ← ha, List.take_append_drop]
 ·rw [hE, List.take_append_drop, h3, ← hb, List.take_append_drop]
 ·rw [between, midOf, endOf, frontOf, ha, hb, List.length_take, Nat.min_eq_left h1]
theorem playR_block (pre x y E : List ByteArray) : playR (pre ++ (x ++ E)) 0 [⟨(pre.length : Int), (x.length : Int), y⟩] = pre ++ (y ++ E) := by
 simp only [playR]
 rw [show ((pre.length : Int) - 0).toNat = pre.length by omega, show ((pre.length : Int) - 0 + (x.length : Int)).toNat = (pre ++ x).length by rw [List.length_append]; omega, List.take_left, ← List.append_assoc pre x, List.drop_left, List.append_assoc]
theorem mid_ok (F x y E : List ByteArray) : okFrom 0 ((F ++ (x ++ E)).length : Int) (midEdits (F.length : Int) x y) = true ∧ playR (F ++ (x ++ E)) 0 (midEdits (F.length : Int) x y) = F ++ (y ++ E) := by
 rw [midEdits]
 by_cases c1 : x = [] ∧ y = []
 ·rw [if_pos c1]
  exact ⟨rfl, by rw [c1.1, c1.2]; rfl⟩
 ·rw [if_neg c1]
  by_cases c2 : x = [] ∨ y = [] ∨ 65536 < x.length * y.length
  ·rw [if_pos c2]
   refine ⟨?_, playR_block F x y E⟩
   simp only [okFrom, Bool.and_true, List.length_append]
   refine decide_eq_true ⟨by omega, by omega, by push_cast; omega, by push_cast; omega, fun h => c1 ⟨List.eq_nil_of_length_eq_zero (by have := h.1; omega), h.2⟩⟩
  ·rw [if_neg c2, (edits_edG _ _ []).1, List.nil_append]
   have hs := steps_app E x y
   refine ⟨(ok_edG _ _ 0 _ (by rw [hs.2, List.length_append, List.length_append]; push_cast; omega)).1 (by omega), ?_⟩
   have h := (play_edG (steps x y) F (x ++ E) 0 (by rw [hs.2, List.length_append]; omega)).1
   rw [hs.1, Int.zero_add] at h
   exact h
theorem between_ok (a b : List ByteArray) : okFrom 0 a.length (between a b) = true ∧ playFrom a 0 (between a b) = b := by
 obtain ⟨F, x, y, E, rfl, rfl, e⟩ := between_split a b
 rw [e]
 have h := mid_ok F x y E
 refine ⟨h.1, ?_⟩
 rw [playFrom_R _ _ 0 0 (by omega) h.1, List.drop_zero]
 exact h.2
end Go.Proofs.Ytoaijganmfijmaa.Pr
-- shrunk
/-
Longest common subsequences: what their lengths satisfy. Plain facts on lists.
-/
namespace Go.Proofs.Ytoaijganmfijmaa.Pr
set_option linter.unusedVariables false
set_option linter.unusedSimpArgs false
open List (Sublist)
theorem lcs_has : ∀ x y : List ByteArray, ∃ s : List ByteArray, s.Sublist x ∧ s.Sublist y ∧ s.length = lcsLen x y
 | [], y => ⟨[], List.nil_sublist _, List.nil_sublist _, by simp [lcsLen]⟩
 | x :: xs, [] => ⟨[], List.nil_sublist _, List.nil_sublist _, by simp [lcsLen]⟩
 | x :: xs, y :: ys => by
  rw [lcsLen]
  by_cases h : x = y
  ·obtain ⟨s, h1, h2, h3⟩ := lcs_has xs ys
   rw [if_pos h]
   exact ⟨x :: s, h1.cons_cons x, by rw [h]; exact h2.cons_cons y, by simp [h3]⟩
  ·rw [if_neg h]
   rcases Nat.le_total (lcsLen (x :: xs) ys) (lcsLen xs (y :: ys)) with hl | hl
   ·obtain ⟨s, h1, h2, h3⟩ := lcs_has xs (y :: ys)
    exact ⟨s, h1.cons x, h2, by rw [h3]; omega⟩
   ·obtain ⟨s, h1, h2, h3⟩ := lcs_has (x :: xs) ys
    exact ⟨s, h1, h2.cons y, by rw [h3]; omega⟩
termination_by x y => x.length + y.length
theorem lcs_most : ∀ (x y s : List ByteArray), s.Sublist x → s.Sublist y → s.length ≤ lcsLen x y
 | [], y, s, h1, h2 => by rw [List.sublist_nil.1 h1]; simp
 | x :: xs, [], s, h1, h2 => by rw [List.sublist_nil.1 h2]; simp
 | x :: xs, y :: ys, s, h1, h2 => by
  rw [lcsLen]
  by_cases h : x = y
  ·rw [if_pos h]
   match s with
   | [] => simp
   | z :: s' =>
    have g1 : s'.Sublist xs := by
     have := List.Sublist.tail h1
     simpa using this
    have g2 : s'.Sublist ys := by
     have := List.Sublist.tail h2
     simpa using this
    have := lcs_most xs ys s' g1 g2
    simp only [List.length_cons]
    omega
  ·rw [if_neg h]
   cases h1 with
   | cons _ g1 =>
    have := lcs_most xs (y :: ys) s g1 h2
    omega
   | cons_cons _ g1 =>
    cases h2 with
    | cons _ g2 =>
     have := lcs_most (x :: xs) ys _ (g1.cons_cons x) g2
     omega
    | cons_cons _ g2 => exact absurd rfl h
termination_by x y => x.length + y.length
theorem lcs_unique {x y : List ByteArray} {n : Nat} (h1 : ∃ s : List ByteArray, s.Sublist x ∧ s.Sublist y ∧ s.length = n) (h2 : ∀ s : List ByteArray, s.Sublist x → s.Sublist y → s.length ≤ n) : lcsLen x y = n := by
 obtain ⟨s, a1, a2, a3⟩ := h1
 obtain ⟨t, b1, b2, b3⟩ := lcs_has x y
 have := lcs_most x y s a1 a2
 have := h2 t b1 b2
 omega
theorem lcs_reverse (x y : List ByteArray) : lcsLen x.reverse y.reverse = lcsLen x y := by
 obtain ⟨t, b1, b2, b3⟩ := lcs_has x y
 refine lcs_unique ⟨t.reverse, b1.reverse, b2.reverse, by simpa using b3⟩ (fun s h1 h2 => ?_)
 have := lcs_most x y s.reverse (by have := h1.reverse; simpa using this) (by have := h2.reverse; simpa using this)
 simpa using this
theorem lcs_front : ∀ (F x y : List ByteArray), lcsLen (F ++ x) (F ++ y) = F.length + lcsLen x y
 | [], x, y => by simp
 | f :: F, x, y => by rw [List.cons_append, List.cons_append, lcsLen, if_pos rfl, lcs_front F x y, List.length_cons]; omega
theorem lcs_end (x y E : List ByteArray) : lcsLen (x ++ E) (y ++ E) = lcsLen x y + E.length := by
 rw [← lcs_reverse, List.reverse_append, List.reverse_append, lcs_front, lcs_reverse, List.length_reverse]; omega
theorem between_size (a b : List ByteArray) (h : a.length * b.length ≤ 65536) : sizeE (between a b) + 2 * (lcsLen a b : Int) = a.length + b.length := by
 obtain ⟨F, x, y, E, rfl, rfl, e⟩ := between_split a b
 rw [e, lcs_front, lcs_end, midEdits]
 have hxy : x.length * y.length ≤ 65536 := Nat.le_trans (Nat.mul_le_mul (by simp only [List.length_append]; omega) (by simp only [List.length_append]; omega)) h
 simp only [List.length_append]
 by_cases c1 : x = [] ∧ y = []
 ·rw [if_pos c1, c1.1, c1.2]
  simp [sizeE, lcsLen]
  omega
 ·rw [if_neg c1]
  by_cases c2 : x = [] ∨ y = [] ∨ 65536 < x.length * y.length
  ·rw [if_pos c2]
   have h0 : lcsLen x y = 0 := by
    rcases c2 with c | c | c
    ·rw [c, nil_lcs]
    ·rw [c, lcs_nil]
    ·omega
   rw [h0]
   simp only [sizeE]
   push_cast
   omega
  ·rw [if_neg c2, (edits_edG _ _ []).1, List.nil_append, (size_edG _ _).1]
   have := steps_chg x y
   push_cast
   omega
end Go.Proofs.Ytoaijganmfijmaa.Pr
-- shrunk
/-
What the laws of layer 5 have in common: the example, what is between two lists.
-/
namespace Go.Proofs.Ytoaijganmfijmaa.Pr
open Go.RowKit Go.Proofs.YtoaijganmfijmaaW.PrintWords Go.Proofs.YtoaijganmfijmaaW.PrintLast Go.Proofs.YtoaijganmfijmaaW.PrintMore
set_option linter.unusedVariables false
set_option linter.unusedSimpArgs false
theorem len_le_size : ∀ (l : List Ed) (fr many : Int), okFrom fr many l = true → (l.length : Int) ≤ sizeE l
 | [], fr, many, h => by simp [sizeE]
 | e :: l, fr, many, h => by
  obtain ⟨c1, c2, c3, c4, c5, h'⟩ := okFrom_cons h
  have ih := len_le_size l _ _ h'
  simp only [sizeE, List.length_cons]
  have : e.f1 = 0 → e.f2.length ≠ 0 := fun h0 h1 => c5 ⟨h0, List.eq_nil_of_length_eq_zero h1⟩
  push_cast
  omega
theorem small_mul {m n k : Nat} (h1 : m ≤ k) (h2 : n ≤ k) (hk : k ≤ 40) : m * n ≤ 65536 := by
 have := Nat.mul_le_mul h1 h2
 have := Nat.mul_le_mul hk hk
 omega
theorem Diff_some (a b : List ByteArray) (h1 : a.length ≤ 4096) (h2 : b.length ≤ 4096) : diff_Diff.f a b = some (between a b) := by
 rw [diff_Diff.f, if_pos (by omega)]
theorem play_mem (a : List ByteArray) : ∀ (l : List Ed) (t : Nat) (e : Ed) (s : ByteArray), e ∈ l → s ∈ e.f2 → s ∈ playFrom a t l
 | x :: l, t, e, s, he, hs => by
  simp only [playFrom, List.mem_append]
  rcases List.mem_cons.1 he with rfl | he
  ·exact Or.inl (Or.inr hs)
  ·exact Or.inr (play_mem a l _ e s he hs)
theorem mod_in {x n : Int} (h0 : 0 ≤ x) (hn : 0 < n) (hn2 : n ≤ 1001) : wrap64 (Int.tmod x n) = x % n ∧ 0 ≤ x % n ∧ x % n < n := by
 have h1 := Int.emod_nonneg x (show n ≠ 0 by omega)
 have h2 := Int.emod_lt_of_pos x hn
 rw [Int.tmod_eq_emod_of_nonneg h0]
 exact ⟨w_in (by omega) (by omega), h1, h2⟩
theorem u8_nn {a : Int} (h : (Lit.int .u8 a).wf = true) : 0 ≤ a := by
 simp only [Lit.wf, Bool.and_eq_true, decide_eq_true_eq] at h
 have e1 : IntKind.u8.min = 0 := rfl
 omega
theorem breaks_most (ar : Int) : ∀ (l : List Ed) (p : Ed), breaks ar p l ≤ l.length
 | [], p => Nat.le_refl _
 | e :: l, p => by have := breaks_most ar l e; rw [breaks, List.length_cons]; split <;> omega
theorem makeH_most (a : List ByteArray) (ar : Int) (l : List Ed) : (makeH a ar 0 l).length ≤ l.length := by
 rw [makeH_len a _ _ l 0 (Nat.le_refl _)]
 cases l with
 | nil => exact Nat.le_refl _
 | cons p l => have := breaks_most ar l p; show 1 + _ ≤ _; rw [List.length_cons]; omega
structure LawB (a b : List ByteArray) : Prop where
 ok : okFrom 0 a.length (between a b) = true
 pl : playFrom a 0 (between a b) = b
 len : (between a b).length ≤ 80
 ins : insE (between a b) ≤ 80
 sz : 0 ≤ sizeE (between a b) ∧ sizeE (between a b) ≤ 80
 o40 : Ok40 (between a b)
 str : ∀ e ∈ between a b, ∀ s ∈ e.f2, s.size ≤ 4611686018427387904
theorem law_between (a b : List ByteArray) (ha : a.length ≤ 40) (hb : b.length ≤ 40) (zb : ∀ s ∈ b, s.size ≤ 140737488351232) : LawB a b := by
 obtain ⟨o1, p1⟩ := between_ok a b
 have hs := between_size a b (small_mul (k := 40) ha hb (by omega))
 have hl := len_le_size _ _ _ o1
 have hi := insE_le (between a b)
 have hn := sizeE_nonneg (between a b)
 refine ⟨o1, p1, by omega, by omega, ⟨hn, by omega⟩, ⟨by omega, fun e he => by have := insE_mem' _ e he; omega⟩, fun e he s hs => ?_⟩
 have := zb s (by rw [← p1]; exact play_mem a _ 0 e s he hs)
 omega
end Go.Proofs.Ytoaijganmfijmaa.Pr
-- shrunk
/-
The hunks between two lists take one to the other; their sizes.
-/
namespace Go.Proofs.Ytoaijganmfijmaa.Pr
open Go.RowKit Go.Proofs.YtoaijganmfijmaaW.PrintWords Go.Proofs.YtoaijganmfijmaaW.PrintLast Go.Proofs.YtoaijganmfijmaaW.PrintMore
set_option linter.unusedVariables false
set_option linter.unusedSimpArgs false
theorem takes_each (a b : List ByteArray) : ∀ (l : List Hk) (d d' : Nat), Takes a b d d' l → ∀ h ∈ l, ∃ (D D' A B : Nat) (bs : List Blk) (t : List ByteArray), TakeOne a b D D' h A B bs t
 | [], d, d', _, h, hh => absurd hh (by simp)
 | x :: l, d, d', H, h, hh => by
  obtain ⟨A, B, bs, t, H, hr⟩ := H
  rcases List.mem_cons.1 hh with rfl | hh
  ·exact ⟨d, d', A, B, bs, t, H⟩
  ·exact takes_each a b l _ _ hr h hh
theorem takes_small {a b : List ByteArray} {l : List Hk} {d d' : Nat} (H : Takes a b d d' l) (ha : a.length ≤ 30000) (hb : b.length ≤ 30000) (hl : l.length ≤ 1024) : SmallA a l := by
 refine ⟨by omega, hl, fun h hh => ?_⟩
 obtain ⟨D, D', A, B, bs, t, H⟩ := takes_each a b l d d' H h hh
 have h1 := H.hA
 have h2 := H.hB
 have h3 := blkLines_len bs t
 rw [H.eq]
 refine ⟨?_, ?_, ?_, ?_, ?_⟩
 ·show (blkLines bs t).length ≤ 65536; omega
 ·show (-1099511627776 : Int) ≤ (A : Int); omega
 ·show (A : Int) ≤ 1099511627776; omega
 ·show (-1099511627776 : Int) ≤ (B : Int); omega
 ·show (B : Int) ≤ 1099511627776; omega
theorem between_takes (a b : List ByteArray) (ar : Int) (h0 : 0 ≤ ar) (hL : LawB a b) : Takes a b 0 0 (makeH a ar 0 (between a b)) :=
 makeH_takes a b ar h0 _ (between a b) 0 0 0 0 (Nat.le_refl _) (Int.le_refl _) hL.ok (by omega) (Nat.zero_le _) (Nat.zero_le _) (by rw [hL.pl]; rfl) (fun _ _ => Nat.zero_le _)
theorem Between_ev (a b : List ByteArray) (ar : Int) (ha : a.length ≤ 40) (hb : b.length ≤ 40) (h0 : 0 ≤ ar) (h1 : ar ≤ 1000) (za : ∀ s ∈ a, s.size ≤ 140737488351232) (hL : LawB a b) : Ev (fun k => apply_Between.f k a b ar) (makeH a ar 0 (between a b), 0) := by
 have hl := hL.len
 have hi := hL.ins
 unfold apply_Between.f
 refine Ev.bind (Ev.none_of fun _ => Diff_some a b (by omega) (by omega)) ?_
 refine Ev.bind (Make_ev a (between a b) ar (by omega) (by omega) (fun s h => by have := za s h; omega) hL.str h0 h1 hL.ok (by omega)) ?_
 exact Ev.now _
end Go.Proofs.Ytoaijganmfijmaa.Pr
-- shrunk
-- written by a program of this session's (a turned copy of the kit's printer); Lean checks it
namespace Go.Proofs.Ytoaijganmfijmaa.Pr
open Go.RowKit Go.Proofs.YtoaijganmfijmaaW.PrintWords Go.Proofs.YtoaijganmfijmaaW.PrintLast Go.Proofs.YtoaijganmfijmaaW.PrintMore
attribute [local go_sem] max2_int min2_int max_two min_two max_three min_three max_four min_four   -- for this text's walks alone
set_option linter.unusedVariables false
set_option linter.unusedSimpArgs false

mutual
def grapevinelaw07_ApplyExact.j0 : Nat → List ByteArray → List ByteArray → Int → Int → ByteArray → Bool → Bool → Option (Bool)
 | 0, _, _, _, _, _, _, _ => none
 | k + 1, x0, x1, x2, x3, x4, x11, x35 => if x35 = true then (some x11) else (if (x0.length : Int) = 0 then (none) else (if 0 ≤ (Int.tmod (wrap64 (x3)) (x0.length : Int)) then (if (Int.tmod (wrap64 (x3)) (x0.length : Int)) < (x0.length : Int) then (if (rdOf ByteArray.empty x0 (Int.tmod (wrap64 (x3)) (x0.length : Int))).toList = x4.toList then (some x11) else ((apply_Between.f k x0 x1 (wrap64 (Int.tmod x2 51))).bind fun bt439 => ((some (([] : List ByteArray) : List ByteArray)).bind fun y443 => (if y443.length + x0.length < 8796093022208 then ((some (y443 ++ x0 : List ByteArray)).bind fun y446 => (if (Int.tmod (wrap64 (x3)) (x0.length : Int)) < (y446.length : Int) then ((apply_Apply.f (y446.set ((Int.tmod (wrap64 (x3)) (x0.length : Int)) : Int).toNat x4) bt439.1).bind fun bt450 => (grapevinelaw07_ApplyExact.l0 k x1 x4 x11 (Int.tmod (wrap64 (x3)) (x0.length : Int)) bt439.1 bt439.2 bt450.1 bt450.2 false 0)) else (none))) else (none))))) else (none)) else (none)))
def grapevinelaw07_ApplyExact.l0 : Nat → List ByteArray → ByteArray → Bool → Int → List (S41) → Int → List ByteArray → Int → Bool → Int → Option (Bool)
 | 0, _, _, _, _, _, _, _, _, _, _ => none
 | k + 1, x1, x4, x11, x12, x13, x14, x16, x17, x18, x19 => if x19 < (x13.length : Int) then (if x18 = true then (grapevinelaw07_ApplyExact.l0 k x1 x4 x11 x12 x13 x14 x16 x17 true (wrap64 (x19 + 1))) else (if 0 ≤ x19 then (if x12 ≥ ((rd_T41 x13 x19).f0) then (grapevinelaw07_ApplyExact.l0 k x1 x4 x11 x12 x13 x14 x16 x17 (decide (x12 < (wrap64 (((rd_T41 x13 x19).f0) + ((rd_T41 x13 x19).f1))))) (wrap64 (x19 + 1))) else (grapevinelaw07_ApplyExact.l0 k x1 x4 x11 x12 x13 x14 x16 x17 false (wrap64 (x19 + 1)))) else (none))) else (if x14 = 0 then (if x18 = true then (if x11 = true then (if x17 = 6 then (some ((x16.length : Int) == 0)) else (some false)) else (some false)) else (grapevinelaw07_ApplyExact.l1 k x1 x4 x11 x16 x17 false 0)) else (some false))
def grapevinelaw07_ApplyExact.l1 : Nat → List ByteArray → ByteArray → Bool → List ByteArray → Int → Bool → Int → Option (Bool)
 | 0, _, _, _, _, _, _, _ => none
 | k + 1, x1, x4, x11, x16, x17, x20, x21 => if x21 < (x16.length : Int) then (if x20 = true then (grapevinelaw07_ApplyExact.l1 k x1 x4 x11 x16 x17 true (wrap64 (x21 + 1))) else (if 0 ≤ x21 then (grapevinelaw07_ApplyExact.l1 k x1 x4 x11 x16 x17 ((rdOf ByteArray.empty x16 x21).toList == x4.toList) (wrap64 (x21 + 1))) else (none))) else (if x11 = true then (if x17 = 0 then (if x20 = true then (some ((x16.length : Int) == (x1.length : Int))) else (some false)) else (some false)) else (some false))
end
def grapevinelaw07_ApplyExact.f (k : Nat) (l0 : List ByteArray) (l1 : List ByteArray) (a2 : Int) (a3 : Int) (a4 : ByteArray) : Option (Bool) := (grapevinelaw07_awake.f).bind fun t437 => (if (l0.length : Int) = 0 then (grapevinelaw07_ApplyExact.j0 k l0 l1 a2 a3 a4 t437 true) else (if (l0.length : Int) > 40 then (grapevinelaw07_ApplyExact.j0 k l0 l1 a2 a3 a4 t437 true) else (grapevinelaw07_ApplyExact.j0 k l0 l1 a2 a3 a4 t437 (decide ((l1.length : Int) > 40)))))
theorem grapevinelaw07_ApplyExact.mono_l : ∀ k, (∀ y0 y1 y2 y3 y4 y5 y6, LeO (grapevinelaw07_ApplyExact.j0 k y0 y1 y2 y3 y4 y5 y6) (grapevinelaw07_ApplyExact.j0 (k + 1) y0 y1 y2 y3 y4 y5 y6)) ∧ (∀ y0 y1 y2 y3 y4 y5 y6 y7 y8 y9, LeO (grapevinelaw07_ApplyExact.l0 k y0 y1 y2 y3 y4 y5 y6 y7 y8 y9) (grapevinelaw07_ApplyExact.l0 (k + 1) y0 y1 y2 y3 y4 y5 y6 y7 y8 y9)) ∧ (∀ y0 y1 y2 y3 y4 y5 y6, LeO (grapevinelaw07_ApplyExact.l1 k y0 y1 y2 y3 y4 y5 y6) (grapevinelaw07_ApplyExact.l1 (k + 1) y0 y1 y2 y3 y4 y5 y6))
 | 0 => ⟨fun _ _ _ _ _ _ _ r h => by simp [grapevinelaw07_ApplyExact.j0] at h, fun _ _ _ _ _ _ _ _ _ _ r h => by simp [grapevinelaw07_ApplyExact.l0] at h, fun _ _ _ _ _ _ _ r h => by simp [grapevinelaw07_ApplyExact.l1] at h⟩
 | k + 1 => by
  obtain ⟨ih0, ih1, ih2⟩ := grapevinelaw07_ApplyExact.mono_l k
  refine ⟨?_, ?_, ?_⟩
  ·intro y0 y1 y2 y3 y4 y5 y6
   unfold grapevinelaw07_ApplyExact.j0
   repeat' first
   | (with_reducible exact ih0 _ _ _ _ _ _ _)
   | (with_reducible exact ih1 _ _ _ _ _ _ _ _ _ _)
   | (with_reducible exact ih2 _ _ _ _ _ _ _)
   | (with_reducible exact apply_Between.mono _ _ _ _)
   | (with_reducible exact LeO.refl _)
   | (with_reducible exact LeO.none _)
   | (with_reducible refine LeO.ite ?_ ?_)
   | (with_reducible refine LeO.bind ?_ (fun _ => ?_))
   | exact ih0 _ _ _ _ _ _ _
   | exact ih1 _ _ _ _ _ _ _ _ _ _
   | exact ih2 _ _ _ _ _ _ _
   | exact apply_Between.mono _ _ _ _
   | exact LeO.none _
   | refine LeO.ite ?_ ?_
   | refine LeO.bind ?_ (fun _ => ?_)
  ·intro y0 y1 y2 y3 y4 y5 y6 y7 y8 y9
   unfold grapevinelaw07_ApplyExact.l0
   repeat' first
   | (with_reducible exact ih0 _ _ _ _ _ _ _)
   | (with_reducible exact ih1 _ _ _ _ _ _ _ _ _ _)
   | (with_reducible exact ih2 _ _ _ _ _ _ _)
   | (with_reducible exact apply_Between.mono _ _ _ _)
   | (with_reducible exact LeO.refl _)
   | (with_reducible exact LeO.none _)
   | (with_reducible refine LeO.ite ?_ ?_)
   | (with_reducible refine LeO.bind ?_ (fun _ => ?_))
   | exact ih0 _ _ _ _ _ _ _
   | exact ih1 _ _ _ _ _ _ _ _ _ _
   | exact ih2 _ _ _ _ _ _ _
   | exact apply_Between.mono _ _ _ _
   | exact LeO.none _
   | refine LeO.ite ?_ ?_
   | refine LeO.bind ?_ (fun _ => ?_)
  ·intro y0 y1 y2 y3 y4 y5 y6
   unfold grapevinelaw07_ApplyExact.l1
   repeat' first
   | (with_reducible exact ih0 _ _ _ _ _ _ _)
   | (with_reducible exact ih1 _ _ _ _ _ _ _ _ _ _)
   | (with_reducible exact ih2 _ _ _ _ _ _ _)
   | (with_reducible exact apply_Between.mono _ _ _ _)
   | (with_reducible exact LeO.refl _)
   | (with_reducible exact LeO.none _)
   | (with_reducible refine LeO.ite ?_ ?_)
   | (with_reducible refine LeO.bind ?_ (fun _ => ?_))
   | exact ih0 _ _ _ _ _ _ _
   | exact ih1 _ _ _ _ _ _ _ _ _ _
   | exact ih2 _ _ _ _ _ _ _
   | exact apply_Between.mono _ _ _ _
   | exact LeO.none _
   | refine LeO.ite ?_ ?_
   | refine LeO.bind ?_ (fun _ => ?_)
theorem grapevinelaw07_ApplyExact.mono : ∀ a0 a1 a2 a3 a4 k, LeO (grapevinelaw07_ApplyExact.f k a0 a1 a2 a3 a4) (grapevinelaw07_ApplyExact.f (k + 1) a0 a1 a2 a3 a4) := by
 intro a0 a1 a2 a3 a4 k
 obtain ⟨ih0, ih1, ih2⟩ := grapevinelaw07_ApplyExact.mono_l k
 unfold grapevinelaw07_ApplyExact.f
 repeat' first
   | (with_reducible exact ih0 _ _ _ _ _ _ _)
   | (with_reducible exact ih1 _ _ _ _ _ _ _ _ _ _)
   | (with_reducible exact ih2 _ _ _ _ _ _ _)
   | (with_reducible exact apply_Between.mono _ _ _ _)
   | (with_reducible exact LeO.refl _)
   | (with_reducible exact LeO.none _)
   | (with_reducible refine LeO.ite ?_ ?_)
   | (with_reducible refine LeO.bind ?_ (fun _ => ?_))
   | exact ih0 _ _ _ _ _ _ _
   | exact ih1 _ _ _ _ _ _ _ _ _ _
   | exact ih2 _ _ _ _ _ _ _
   | exact apply_Between.mono _ _ _ _
   | exact LeO.none _
   | refine LeO.ite ?_ ?_
   | refine LeO.bind ?_ (fun _ => ?_)
set_option maxHeartbeats 8000000 in
set_option maxRecDepth 100000 in
theorem grapevinelaw07_ApplyExact.calls (k : Nat) (A0 : Option Addr) (c0 : Nat) (l0 : List ByteArray) (A1 : Option Addr) (c1 : Nat) (l1 : List ByteArray) (a2 : Int) (a3 : Int) (a4 : ByteArray) (r : Bool) (w : World) (hrt_ : Aside0 (r = true)) (hr0 : Kd.C Kd.string w A0 l0.length l0) (hc0 : l0.length ≤ c0) (hr1 : Kd.C Kd.string w A1 l1.length l1) (hc1 : l1.length ≤ c1) (h : grapevinelaw07_ApplyExact.f k l0 l1 a2 a3 a4 = some r) :
  Calls Try.prog 6 #[.slice A0 l0.length c0, .slice A1 l1.length c1, .int .u8 a2, .int .u8 a3, .string a4] w fun e w' => e = .returned (.bool r) ∧ Below w.heap.size w w' := by
 have HR0 := Aside0.mk hr0
 have HC0 := Aside0.mk hc0
 clear hr0 hc0
 have HR1 := Aside0.mk hr1
 have HC1 := Aside0.mk hc1
 clear hr1 hc1
 have HB := Aside0.mk (Below.refl w.heap.size w)
 have H : ((grapevinelaw07_awake.f).bind fun t437 => (if (l0.length : Int) = 0 then (grapevinelaw07_ApplyExact.j0 k l0 l1 a2 a3 a4 t437 true) else (if (l0.length : Int) > 40 then (grapevinelaw07_ApplyExact.j0 k l0 l1 a2 a3 a4 t437 true) else (grapevinelaw07_ApplyExact.j0 k l0 l1 a2 a3 a4 t437 (decide ((l1.length : Int) > 40)))))) = some r := h
 clear h
 replace H := Option.bind_eq_some_iff.mp H
 obtain ⟨t437, A60, H⟩ := H
 replace H : (if (l0.length : Int) = 0 then (grapevinelaw07_ApplyExact.j0 k l0 l1 a2 a3 a4 t437 true) else (if (l0.length : Int) > 40 then (grapevinelaw07_ApplyExact.j0 k l0 l1 a2 a3 a4 t437 true) else (grapevinelaw07_ApplyExact.j0 k l0 l1 a2 a3 a4 t437 (decide ((l1.length : Int) > 40))))) = some r := H
 have A6 := Aside0.mk A60
 clear A60
 have HC7 := Aside0.mk H
 clear H
 go_enter Try.func6, Try.ntmps6
 go_upto_region 2 with (first | (go_at_call 10; (with_reducible refine (grapevinelaw07_awake.calls  t437 _ A6.out).mono ?_); rintro e w8 ⟨rfl, hb⟩; have n0_ := Aside0.mk (below_step (by repeat (first | (with_reducible first | exact HB.out | apply below_alloc | apply pw_below_drewN | apply below_drew1) | exact HB.out)) hb); clear HB; have HB := n0_; clear n0_; (try clear hb); (try clear hb2); (try clear hk); (try clear hi)))
 (try simp only [Act.put, List.setIfInBounds_toArray, List.set_cons_zero, List.set_cons_succ])
 go_cut [35] (fun v35 wc => ∃ (kq : Nat) (x35_6 : Bool), v35 = .bool x35_6 ∧ Aside0 (grapevinelaw07_ApplyExact.j0 kq l0 l1 a2 a3 a4 t437 x35_6 = some r) ∧ Aside0 (kq ≤ k) ∧ Aside0 (Below w.heap.size w wc))
 case first =>
  have H := HC7.out
  clear HC7
  by_cases c9 : (l0.length : Int) = 0
  ·rw [if_pos c9] at H
   have c9b0 : ((l0.length : Int) == 0) = true := beq_iff_eq.mpr c9
   have c9b1 : ((l0.length : Int) != 0) = false := bne_eq_false_iff_eq.mpr c9
   clear c9
   (first | rw [c9b0] | (simp only [i64_w, i32_w]; rw [c9b0]) | skip)
   have H' := Aside0.mk H
   clear H
   go_wp2
   go_meet
   case rel => exact ⟨_, (true), (by first | rfl | (simp; done) | (simp [*]; done)), H', ⟨by first | omega | exact Nat.le_refl _⟩, ⟨by repeat (first | (with_reducible first | exact HB.out | apply below_alloc | apply pw_below_drewN | apply below_drew1) | exact HB.out)⟩⟩
  ·rw [if_neg c9] at H
   have c9b0 : ((l0.length : Int) == 0) = false := beq_eq_false_iff_ne.mpr c9
   have c9b1 : ((l0.length : Int) != 0) = true := bne_iff_ne.mpr c9
   have c9b2 : ¬ (l0 = []) := fun h_ => c9 (by rw [h_]; rfl)
   (first | rw [c9b0] | (simp only [i64_w, i32_w]; rw [c9b0]) | skip)
   by_cases c10 : (l0.length : Int) > 40
   ·rw [if_pos c10] at H
    have c10b0 : decide (40 < (l0.length : Int)) = true := decide_eq_true c10
    have c10b1 : decide (40 < l0.length) = true := decide_eq_true (by omega)
    clear c10
    have H' := Aside0.mk H
    clear H
    go_wp2
    go_meet
    case rel => exact ⟨_, (true), (by first | rfl | (simp; done) | (simp [*]; done)), H', ⟨by first | omega | exact Nat.le_refl _⟩, ⟨by repeat (first | (with_reducible first | exact HB.out | apply below_alloc | apply pw_below_drewN | apply below_drew1) | exact HB.out)⟩⟩
   ·rw [if_neg c10] at H
    have c10b0 : decide (40 < (l0.length : Int)) = false := decide_eq_false c10
    have c10b1 : decide (40 < l0.length) = false := decide_eq_false (by omega)
    clear c10
    have H' := Aside0.mk H
    clear H
    go_wp2
    go_meet
    case rel => exact ⟨_, (decide ((l1.length : Int) > 40)), (by first | rfl | (simp; done) | (simp [*]; done)), H', ⟨by first | omega | exact Nat.le_refl _⟩, ⟨by repeat (first | (with_reducible first | exact HB.out | apply below_alloc | apply pw_below_drewN | apply below_drew1) | exact HB.out)⟩⟩
 case rest =>
  clear HC7
  try clear c1
  try clear p2
  try clear c6
  try clear c9
  try clear c9b0
  try clear c9b1
  try clear c9b2
  try clear c10
  try clear c10b0
  try clear c10b1
  obtain ⟨kq, x35_6, rfl, HA, HJ6, HB⟩ := hcut
  cases kq with
  | zero => exact absurd HA.out (by simp [grapevinelaw07_ApplyExact.j0])
  | succ kj6 =>
   have H := HA.out
   clear HA
   simp only [grapevinelaw07_ApplyExact.j0] at H
   by_cases c11 : x35_6 = true
   ·subst c11
    have H1 : (some t437) = some r := by rw [if_pos rfl] at H; exact H
    clear H
    have H := H1
    clear H1
    obtain rfl := Option.some.inj H
    go_wp2
    go_ret
    exact ⟨by first | rfl | (simp [errW_none, errW_some] <;> rfl) | (simp [*, errW_none, errW_some] <;> rfl), by repeat (first | (with_reducible first | exact HB.out | apply below_alloc | apply pw_below_drewN | apply below_drew1) | exact HB.out)⟩
   ·replace c11 := Bool.eq_false_iff.mpr c11
    subst c11
    have H1 : (if (l0.length : Int) = 0 then (none) else (if 0 ≤ (Int.tmod (wrap64 (a3)) (l0.length : Int)) then (if (Int.tmod (wrap64 (a3)) (l0.length : Int)) < (l0.length : Int) then (if (rdOf ByteArray.empty l0 (Int.tmod (wrap64 (a3)) (l0.length : Int))).toList = a4.toList then (some t437) else ((apply_Between.f kj6 l0 l1 (wrap64 (Int.tmod a2 51))).bind fun bt439 => ((some (([] : List ByteArray) : List ByteArray)).bind fun y443 => (if y443.length + l0.length < 8796093022208 then ((some (y443 ++ l0 : List ByteArray)).bind fun y446 => (if (Int.tmod (wrap64 (a3)) (l0.length : Int)) < (y446.length : Int) then ((apply_Apply.f (y446.set ((Int.tmod (wrap64 (a3)) (l0.length : Int)) : Int).toNat a4) bt439.1).bind fun bt450 => (grapevinelaw07_ApplyExact.l0 kj6 l1 a4 t437 (Int.tmod (wrap64 (a3)) (l0.length : Int)) bt439.1 bt439.2 bt450.1 bt450.2 false 0)) else (none))) else (none))))) else (none)) else (none))) = some r := by rw [if_neg (show ¬ (false = true) by decide)] at H; exact H
    clear H
    have H := H1
    clear H1
    by_cases c12 : (l0.length : Int) = 0
    ·rw [if_pos c12] at H
     exact absurd H (by simp)
    ·rw [if_neg c12] at H
     have c12b0 : ((l0.length : Int) == 0) = false := beq_eq_false_iff_ne.mpr c12
     have c12b1 : ((l0.length : Int) != 0) = true := bne_iff_ne.mpr c12
     have c12b2 : ¬ (l0 = []) := fun h_ => c12 (by rw [h_]; rfl)
     obtain ⟨ji13, hji13⟩ : ∃ j_ : Int, (Int.tmod (wrap64 (a3)) (l0.length : Int)) = j_ := ⟨_, rfl⟩
     replace H : (if 0 ≤ (ji13) then (if (ji13) < (l0.length : Int) then (if (rdOf ByteArray.empty l0 (ji13)).toList = a4.toList then (some t437) else ((apply_Between.f kj6 l0 l1 (wrap64 (Int.tmod a2 51))).bind fun bt439 => ((some (([] : List ByteArray) : List ByteArray)).bind fun y443 => (if y443.length + l0.length < 8796093022208 then ((some (y443 ++ l0 : List ByteArray)).bind fun y446 => (if (ji13) < (y446.length : Int) then ((apply_Apply.f (y446.set ((ji13) : Int).toNat a4) bt439.1).bind fun bt450 => (grapevinelaw07_ApplyExact.l0 kj6 l1 a4 t437 ji13 bt439.1 bt439.2 bt450.1 bt450.2 false 0)) else (none))) else (none))))) else (none)) else (none)) = some r := by first | (rw [hji13] at H; exact H) | (simp only [hji13] at H ⊢; exact H)
     by_cases c14 : 0 ≤ (ji13)
     ·rw [if_pos c14] at H
      have c14b0 : decide (0 ≤ (ji13)) = true := decide_eq_true c14
      clear c14
      by_cases c15 : (ji13) < (l0.length : Int)
      ·rw [if_pos c15] at H
       have c15b0 : decide ((ji13) < (l0.length : Int)) = true := decide_eq_true c15
       clear c15
       by_cases c16 : (rdOf ByteArray.empty l0 (ji13)).toList = a4.toList
       ·rw [if_pos c16] at H
        have c16b0 : ((rdOf ByteArray.empty l0 (ji13)).toList == a4.toList) = true := beq_iff_eq.mpr c16
        have c16b1 : ((rdOf ByteArray.empty l0 (ji13)).toList != a4.toList) = false := bne_eq_false_iff_eq.mpr c16
        clear c16
        obtain rfl := Option.some.inj H
        have p438 : 0 ≤ ((ji13) : Int) := of_decide_eq_true (by first | (with_reducible assumption) | assumption)
        have q438 : (ji13) < (l0.length : Int) := of_decide_eq_true (by first | (with_reducible assumption) | assumption)
        obtain ⟨ad438, e438, hx438_0⟩ := Kd.at_string HR0.out (ji13) p438 q438
        cases e438
        replace hx438_0 := (HB.out.cell (World.block_lt_of_cell? w _ hx438_0)).trans hx438_0
        replace p438 := eq_true p438
        replace q438 := eq_true q438
        go_wp2
        go_ret
        exact ⟨by first | rfl | (simp [errW_none, errW_some] <;> rfl) | (simp only [← hji13]; first | rfl | (simp [errW_none, errW_some] <;> rfl)) | (simp [*, errW_none, errW_some] <;> rfl), by repeat (first | (with_reducible first | exact HB.out | apply below_alloc | apply pw_below_drewN | apply below_drew1) | exact HB.out)⟩
       ·rw [if_neg c16] at H
        have c16b0 : ((rdOf ByteArray.empty l0 (ji13)).toList == a4.toList) = false := beq_eq_false_iff_ne.mpr c16
        have c16b1 : ((rdOf ByteArray.empty l0 (ji13)).toList != a4.toList) = true := bne_iff_ne.mpr c16
        replace H := Option.bind_eq_some_iff.mp H
        obtain ⟨⟨t439, t440⟩, A170, H⟩ := H
        replace H : ((some (([] : List ByteArray) : List ByteArray)).bind fun y443 => (if y443.length + l0.length < 8796093022208 then ((some (y443 ++ l0 : List ByteArray)).bind fun y446 => (if (ji13) < (y446.length : Int) then ((apply_Apply.f (y446.set ((ji13) : Int).toNat a4) t439).bind fun bt450 => (grapevinelaw07_ApplyExact.l0 kj6 l1 a4 t437 ji13 t439 t440 bt450.1 bt450.2 false 0)) else (none))) else (none))) = some r := H
        have A17 := Aside0.mk A170
        clear A170
        obtain ⟨y443, hy443⟩ : ∃ y_ : List ByteArray, y_ = (([] : List ByteArray)) := ⟨_, rfl⟩
        replace H : (if y443.length + l0.length < 8796093022208 then ((some (y443 ++ l0 : List ByteArray)).bind fun y446 => (if (ji13) < (y446.length : Int) then ((apply_Apply.f (y446.set ((ji13) : Int).toNat a4) t439).bind fun bt450 => (grapevinelaw07_ApplyExact.l0 kj6 l1 a4 t437 ji13 t439 t440 bt450.1 bt450.2 false 0)) else (none))) else (none)) = some r := by first | (rw [hy443]; with_reducible exact H) | (have H2_ := (Option.bind_some _ _).symm.trans H; rw [hy443]; with_reducible exact H2_) | (have H2_ := (Option.bind_some _ _).symm.trans H; with_reducible exact H2_) | with_reducible exact H | (rw [hy443]; exact H) | exact H
        have Ny443 := Aside0.mk hy443
        clear hy443
        by_cases c18 : y443.length + l0.length < 8796093022208
        ·rw [if_pos c18] at H
         have LMc18 := Aside0.mk c18
         clear c18
         obtain ⟨y446, hy446⟩ : ∃ y_ : List ByteArray, y_ = (y443 ++ l0) := ⟨_, rfl⟩
         replace H : (if (ji13) < (y446.length : Int) then ((apply_Apply.f (y446.set ((ji13) : Int).toNat a4) t439).bind fun bt450 => (grapevinelaw07_ApplyExact.l0 kj6 l1 a4 t437 ji13 t439 t440 bt450.1 bt450.2 false 0)) else (none)) = some r := by first | (rw [hy446]; with_reducible exact H) | (have H2_ := (Option.bind_some _ _).symm.trans H; rw [hy446]; with_reducible exact H2_) | (have H2_ := (Option.bind_some _ _).symm.trans H; with_reducible exact H2_) | with_reducible exact H | (rw [hy446]; exact H) | exact H
         have Ny446 := Aside0.mk hy446
         clear hy446
         by_cases c19 : (ji13) < (y446.length : Int)
         ·rw [if_pos c19] at H
          have c19b0 : decide ((ji13) < (y446.length : Int)) = true := decide_eq_true c19
          clear c19
          obtain ⟨y449, hy449⟩ : ∃ y_ : List ByteArray, y_ = (y446.set ((ji13) : Int).toNat a4) := ⟨_, rfl⟩
          replace H : ((apply_Apply.f y449 t439).bind fun bt450 => (grapevinelaw07_ApplyExact.l0 kj6 l1 a4 t437 ji13 t439 t440 bt450.1 bt450.2 false 0)) = some r := by first | (rw [hy449]; with_reducible exact H) | (have H2_ := (Option.bind_some _ _).symm.trans H; rw [hy449]; with_reducible exact H2_) | (have H2_ := (Option.bind_some _ _).symm.trans H; with_reducible exact H2_) | with_reducible exact H | (rw [hy449]; exact H) | exact H
          have Ny449 := Aside0.mk hy449
          clear hy449
          replace H := Option.bind_eq_some_iff.mp H
          obtain ⟨⟨t450, t451⟩, A210, H⟩ := H
          replace H : (grapevinelaw07_ApplyExact.l0 kj6 l1 a4 t437 ji13 t439 t440 t450 t451 false 0) = some r := H
          have A21 := Aside0.mk A210
          clear A210
          have H' := Aside0.mk H
          clear H
          have p438 : 0 ≤ ((ji13) : Int) := of_decide_eq_true (by first | (with_reducible assumption) | assumption)
          have q438 : (ji13) < (l0.length : Int) := of_decide_eq_true (by first | (with_reducible assumption) | assumption)
          obtain ⟨ad438, e438, hx438_0⟩ := Kd.at_string HR0.out (ji13) p438 q438
          cases e438
          replace hx438_0 := (HB.out.cell (World.block_lt_of_cell? w _ hx438_0)).trans hx438_0
          replace p438 := eq_true p438
          replace q438 := eq_true q438
          go_wp2_with (first | (go_at_call 20; (with_reducible refine (apply_Between.calls kj6 _ _ l0 _ _ l1 (wrap64 (Int.tmod a2 51)) t439 t440 _ ?side1 ?side2 ?side3 ?side4 A17.out).mono ?_); (case side1 => repeat (first | exact (Kd.C_below HR0.out HB.out) | (with_reducible refine Kd.C_alloc ?_ _) | (with_reducible refine Kd.C_drewN ?_ _) | (with_reducible refine Kd.C_drew ?_))); (case side2 => exact HC0.out); (case side3 => repeat (first | exact (Kd.C_below HR1.out HB.out) | (with_reducible refine Kd.C_alloc ?_ _) | (with_reducible refine Kd.C_drewN ?_ _) | (with_reducible refine Kd.C_drew ?_))); (case side4 => exact HC1.out); rintro e w22 ⟨v441, rfl, ho0, hb⟩; have n0_ := Aside0.mk (Kd.S_lower ho0 (below_size (by repeat (first | (with_reducible first | exact HB.out | apply below_alloc | apply pw_below_drewN | apply below_drew1) | exact HB.out)))); have n1_ := Aside0.mk (below_step (by repeat (first | (with_reducible first | exact HB.out | apply below_alloc | apply pw_below_drewN | apply below_drew1) | exact HB.out)) hb); clear HB; have HO442 := n0_; have HB := n1_; clear n0_ n1_; (try clear hb); (try clear hb2); (try clear hk); (try clear hi); (try clear ho0)) | ((with_reducible refine gate_dst (N := 58) rfl ?_); (try (refine gate_guard (by rfl) ?_; dsimp only)); refine Kd.R_lit Kd.string _ 9 ?hg (N := 58) ?hd (xs := ([] : List ByteArray)) (inner := []) (ok := fun _ => True) (okp := fun _ => True) ?hr ?hp (fun _ hk => hk) trivial (Below.refl _ _) (Nat.le_refl _) (by simp) ?_; (case hd => rfl); (case hg => rfl); (case hr => first | (go_simp; done) | (go_simp; rfl)); (case hp => exact (Reps.none _ _)); intro v444 w23 ho24 hb hg_ hnew_; clear hg_ hnew_; (first | rw [← Ny443.out] at ho24 | (simp only [Int.reduceToNat] at ho24; rw [← Ny443.out] at ho24)); have n0_ := Aside0.mk (Kd.S_elder' (by (with_reducible repeat (first | apply Kd.S_alloc | apply Kd.S_drewN | apply Kd.S_drew)); exact HO442.out) (Kd.R_base ho24) hb); have n1_ := Aside0.mk (Kd.R_lower ho24 (below_size (by repeat (first | (with_reducible first | exact HB.out | apply below_alloc | apply pw_below_drewN | apply below_drew1) | exact HB.out)))); have n2_ := Aside0.mk (below_step (by repeat (first | (with_reducible first | exact HB.out | apply below_alloc | apply pw_below_drewN | apply below_drew1) | exact HB.out)) hb); clear HO442; clear HB; have HO442 := n0_; have HO445 := n1_; have HB := n2_; clear n0_ n1_ n2_; clear hb ho24) | ((with_reducible refine gate_builtin (b := .append) (xs := #[.tmp 58, .tmp 59]) rfl ?_); (try (refine gate_guard (by rfl) ?_; dsimp only)); at_builtin; refine Kd.R_append_rows Kd.string (w0 := w) w.heap.size rfl (.tmp 58) (.tmp 59) 22 9 (.string ⟨#[]⟩) 16 rfl Try.underlying22 info9 rfl (by decide) (by omega) v444 y443 l0 _ _ _ (fun _ => True) (fun _ => False) rfl rfl ?aO ?aR (fun _ _ h => h) (fun _ h => h.elim) ?aF ?aB ?aS ?aL ?_; (case aR => repeat (first | exact (Kd.C_below HR0.out HB.out) | (with_reducible refine Kd.C_alloc ?_ _) | (with_reducible refine Kd.C_drewN ?_ _) | (with_reducible refine Kd.C_drew ?_))); (case aB => exact (by repeat (first | (with_reducible first | exact HB.out | apply below_alloc | apply pw_below_drewN | apply below_drew1) | exact HB.out))); (case aF => exact (fun _ _ => trivial)); (case aO => exact (by (with_reducible repeat (first | apply Kd.R_alloc | apply Kd.R_drewN | apply Kd.R_drew)); exact HO445.out)); (case aS => exact (below_size (by repeat (first | (with_reducible first | exact HB.out | apply below_alloc | apply pw_below_drewN | apply below_drew1) | exact HB.out)))); (case aL => have := LMc18.out; omega); intro v447 w25 ho hb hg hat; rw [← Ny446.out] at ho; have n0_ := Aside0.mk (Kd.S_after (ok := (fun _ => True)) (by (with_reducible repeat (first | apply Kd.S_alloc | apply Kd.S_drewN | apply Kd.S_drew)); exact HO442.out) hg hat); have n1_ := Aside0.mk (hb); have n2_ := Aside0.mk (ho); clear HO442; clear HB; clear HO445; have HO442 := n0_; have HB := n1_; have HO448 := n2_; clear n0_ n1_ n2_; clear ho hb hg hat; have p20 : 0 ≤ ((ji13) : Int) := of_decide_eq_true (by first | (with_reducible assumption) | assumption); have q20 : ((ji13) : Int) < ((y446.length : Int) : Int) := of_decide_eq_true (by first | (with_reducible assumption) | assumption); obtain ⟨go20, co20, eo20, gb20, gl20, cl20, HG20⟩ := Kd.R_form HO448.out (by omega); (first | cases eo20 | (injection eo20 with ea_ en_ ec_; (first | subst ea_ | (injection ea_ with ea_; subst ea_)); subst ec_; clear en_)); have GB20 := Aside0.mk gb20; have GG20 := Aside0.mk HG20; clear gb20 gl20 HG20; obtain ⟨hx20_0, hf20_0⟩ := Kd.R_celln (⟨#[]⟩ : ByteArray) HO448.out ((ji13) : Int) p20 q20; replace p20 := eq_true p20; replace q20 := eq_true q20; obtain ⟨hy26_, hz26_⟩ := Kd.R_celln (⟨#[]⟩ : ByteArray) HO448.out ((ji13) : Int) (of_decide_eq_true (by first | (with_reducible assumption) | assumption)) (of_decide_eq_true (by first | (with_reducible assumption) | assumption)); have HP26 := Kd.R_putg HO448.out ((ji13) : Int) a4) | ((with_reducible refine gate_store (t := 9) (p := 64) rfl ?_); (try (rw [drewN_self w25]; generalize hq_ : World.drewN w25 _ = w25; have n0_ := Aside0.mk (Kd.S_at hq_ HO442.out); have n1_ := Aside0.mk (Kd.R_at hq_ HO448.out); have n2_ := Aside0.mk (below_at hq_ HB.out); clear hq_ HO442 HO448 HB; have HO442 := n0_; have HO448 := n1_; have HB := n2_; clear n0_ n1_ n2_; (try (obtain ⟨hy26_, hz26_⟩ := Kd.R_celln (⟨#[]⟩ : ByteArray) HO448.out ((ji13) : Int) (of_decide_eq_true (by first | (with_reducible assumption) | assumption)) (of_decide_eq_true (by first | (with_reducible assumption) | assumption)))); (try (have HP26 := Kd.R_putg HO448.out ((ji13) : Int) a4)))); refine store_event (t := 9) (p := 64) (v := ?vo_w27) (w1 := (w25.setCell ⟨go20, ((ji13) : Int).toNat, none⟩ (.string a4))) ?hg ?ho ?hn ?hr ?_; (case ho => rfl); (case hg => rfl); (case hn => rfl); (case hr => first | (go_simp; done) | (go_simp; rfl)); intro w27 hw; have hg : w25.grownBy w27 (some go20) := (by rw [hw]; exact HP26.2); have hp_ : Kd.R Kd.string 9 w27 w.heap.size (fun _ => True) (.slice (some ⟨go20, 0, none⟩) y446.length co20) y449 := (by rw [hw, Ny449.out]; exact HP26.1); clear HP26; have n0_ := Aside0.mk (Kd.S_after (v := (.slice (some ⟨go20, 0, none⟩) y446.length co20)) (v1 := (.slice (some ⟨go20, 0, none⟩) y446.length co20)) (ok := (fun _ => True)) (by (with_reducible repeat (first | apply Kd.S_alloc | apply Kd.S_drewN | apply Kd.S_drew)); exact HO442.out) hg (.inl rfl)); have n1_ := Aside0.mk (hp_); have n2_ := Aside0.mk ((by rw [hw]; exact below_set (HB.out) GB20.out : Below w.heap.size w w27)); clear HO442; clear HO448; clear HB; have HO442 := n0_; have HO448 := n1_; have HB := n2_; clear n0_ n1_ n2_; clear hg hw hp_; obtain ⟨Ao28, co28, eo28⟩ := Kd.S_slice HO442.out; subst eo28) | (go_at_call 12; refine calls_of_args (args' := #[.slice (some ⟨go20, 0, none⟩) y449.length co20, .slice Ao28 t439.length co28]) (by first | (rw [show y449.length = y446.length from (Kd.R_reads' HO448.out).1.symm] <;> rfl) | rfl) ?_; (with_reducible refine (apply_Apply.calls _ _ y449 _ _ t439 t450 t451 _ ?side1 ?side2 ?side3 ?side4 A21.out).mono ?_); (case side1 => repeat (first | exact (Kd.R_reads' HO448.out).2.2 | (with_reducible refine Kd.C_alloc ?_ _) | (with_reducible refine Kd.C_drewN ?_ _) | (with_reducible refine Kd.C_drew ?_))); (case side2 => rw [show y449.length = y446.length from (Kd.R_reads' HO448.out).1.symm]; exact (Kd.R_reads' HO448.out).2.1); (case side3 => repeat (first | exact (Kd.S_reads' HO442.out).2.2 | (with_reducible refine Kd.C_alloc ?_ _) | (with_reducible refine Kd.C_drewN ?_ _) | (with_reducible refine Kd.C_drew ?_))); (case side4 => exact (Kd.S_reads' HO442.out).2.1); rintro e w29 ⟨v452, rfl, ho0, hb⟩; have n0_ := Aside0.mk (Kd.S_elder' (by (with_reducible repeat (first | apply Kd.S_alloc | apply Kd.S_drewN | apply Kd.S_drew)); exact HO442.out) (Kd.R_base ho0) hb); have n1_ := Aside0.mk (Kd.R_elder' (by (with_reducible repeat (first | apply Kd.R_alloc | apply Kd.R_drewN | apply Kd.R_drew)); exact HO448.out) (Kd.R_base ho0) hb); have n2_ := Aside0.mk (Kd.R_lower (Kd.R_new' ho0 (Kd.R_lt (by (with_reducible repeat (first | apply Kd.R_alloc | apply Kd.R_drewN | apply Kd.R_drew)); exact HO448.out))) (below_size (by repeat (first | (with_reducible first | exact HB.out | apply below_alloc | apply pw_below_drewN | apply below_drew1) | exact HB.out)))); have n3_ := Aside0.mk (below_step (by repeat (first | (with_reducible first | exact HB.out | apply below_alloc | apply pw_below_drewN | apply below_drew1) | exact HB.out)) hb); clear HO442; clear HO448; clear HB; have HO442 := n0_; have HO448 := n1_; have HO453 := n2_; have HB := n3_; clear n0_ n1_ n2_ n3_; (try clear hb); (try clear hb2); (try clear hk); (try clear hi); (try clear ho0)))
          go_loopg [18, 19] kj6 (fun kq v18 v19 w' => ∃ (x18_2 : Bool) (x19_2 : Int), v18 = .bool x18_2 ∧ v19 = .int .i64 x19_2 ∧ Aside0 (grapevinelaw07_ApplyExact.l0 kq l1 a4 t437 ji13 t439 t440 t450 t451 x18_2 x19_2 = some r) ∧ Aside0 (kq ≤ kj6) ∧ Aside0 (Kd.S k41 41 w' w.heap.size (fun k_ => some k_ ≠ (v452 : Value).ownBlock) (.slice Ao28 t439.length co28) t439) ∧ Aside0 (Kd.R Kd.string 9 w' w.heap.size (fun _ => True) v452 t450) ∧ Aside0 (Below w.heap.size w w'))
          case atStart => exact ⟨(false), (0), (by first | rfl | (simp; done) | (simp [*]; done)), (by first | rfl | (simp; done) | (simp [*]; done)), H', ⟨Nat.le_refl _⟩, ⟨by (with_reducible repeat (first | apply Kd.S_alloc | apply Kd.S_drewN | apply Kd.S_drew)); exact Kd.S_mono HO442.out (fun _ hk => hk.2)⟩, ⟨by (with_reducible repeat (first | apply Kd.R_alloc | apply Kd.R_drewN | apply Kd.R_drew)); exact Kd.R_mono HO453.out (fun _ hk => trivial)⟩, ⟨by repeat (first | (with_reducible first | exact HB.out | apply below_alloc | apply pw_below_drewN | apply below_drew1) | exact HB.out)⟩⟩
          case round =>
           clear H'
           try clear c1
           try clear p2
           try clear q2
           try clear hx2
           try clear p4
           try clear q4
           try clear hx4
           try clear c6
           try clear p6
           try clear c9
           try clear c9b0
           try clear c9b1
           try clear c9b2
           try clear c10
           try clear c10b0
           try clear c10b1
           try clear c11
           try clear c12
           try clear c12b0
           try clear c12b1
           try clear c12b2
           try clear c14
           try clear c14b0
           try clear c15
           try clear c15b0
           try clear c16
           try clear c16b0
           try clear c16b1
           try clear c18
           try clear c19
           try clear c19b0
           try clear p20
           try clear q20
           try clear hx20
           try clear hf20
           try clear hx20_0
           try clear hx438_0
           try clear p2
           try clear p20
           try clear p438
           try clear q20
           try clear q438
           obtain ⟨x18_2, x19_2, rfl, rfl, HA, HK2, HO_13, HO_16, HB⟩ := hrel
           cases gk with
           | zero => exact absurd HA.out (by simp [grapevinelaw07_ApplyExact.l0])
           | succ k2 =>
            have H := HA.out
            clear HA
            simp only [grapevinelaw07_ApplyExact.l0] at H
            by_cases c30 : x19_2 < (t439.length : Int)
            ·rw [if_pos c30] at H
             have c30b0 : decide (x19_2 < (t439.length : Int)) = true := decide_eq_true c30
             clear c30
             by_cases c31 : x18_2 = true
             ·subst c31
              have H1 : (grapevinelaw07_ApplyExact.l0 k2 l1 a4 t437 ji13 t439 t440 t450 t451 true (wrap64 (x19_2 + 1))) = some r := by rw [if_pos rfl] at H; exact H
              clear H
              have H := H1
              clear H1
              have H' := Aside0.mk H
              clear H
              go_wp2
              repeat (go_quiet (fail); try go_wp2)
              go_roundg k2
              case measure => have := HJ6.out; have := HK2.out; omega
              case rel => exact ⟨(true), (wrap64 (x19_2 + 1)), (by first | rfl | (simp; done) | (simp [*]; done)), (by first | rfl | (simp; done) | (simp [*]; done)), H', ⟨by have := HJ6.out; have := HK2.out; omega⟩, ⟨by (with_reducible repeat (first | apply Kd.S_alloc | apply Kd.S_drewN | apply Kd.S_drew)); exact HO_13.out⟩, ⟨by (with_reducible repeat (first | apply Kd.R_alloc | apply Kd.R_drewN | apply Kd.R_drew)); exact HO_16.out⟩, ⟨by repeat (first | (with_reducible first | exact HB.out | apply below_alloc | apply pw_below_drewN | apply below_drew1) | exact HB.out)⟩⟩
             ·replace c31 := Bool.eq_false_iff.mpr c31
              subst c31
              have H1 : (if 0 ≤ x19_2 then (if ji13 ≥ ((rd_T41 t439 x19_2).f0) then (grapevinelaw07_ApplyExact.l0 k2 l1 a4 t437 ji13 t439 t440 t450 t451 (decide (ji13 < (wrap64 (((rd_T41 t439 x19_2).f0) + ((rd_T41 t439 x19_2).f1))))) (wrap64 (x19_2 + 1))) else (grapevinelaw07_ApplyExact.l0 k2 l1 a4 t437 ji13 t439 t440 t450 t451 false (wrap64 (x19_2 + 1)))) else (none)) = some r := by rw [if_neg (show ¬ (false = true) by decide)] at H; exact H
              clear H
              have H := H1
              clear H1
              by_cases c32 : 0 ≤ x19_2
              ·rw [if_pos c32] at H
               have c32b0 : decide (0 ≤ x19_2) = true := decide_eq_true c32
               clear c32
               by_cases c33 : ji13 ≥ ((rd_T41 t439 x19_2).f0)
               ·rw [if_pos c33] at H
                have c33b0 : decide (((rd_T41 t439 x19_2).f0) ≤ ji13) = true := decide_eq_true c33
                clear c33
                have H' := Aside0.mk H
                clear H
                have p454 : 0 ≤ (x19_2 : Int) := of_decide_eq_true (by first | (with_reducible assumption) | assumption)
                have q454 : x19_2 < (t439.length : Int) := of_decide_eq_true (by first | (with_reducible assumption) | assumption)
                obtain ⟨ad454, A454_4, c454_4, e454, hx454_0, hx454_1, hx454_2, hx454_3, hx454_4, hl454_4, hi454_4⟩ := at_T41 (Kd.S_reads' HO_13.out).2.2 x19_2 p454 q454
                cases e454
                obtain ⟨ce454, hce454, hMe454, hcc454⟩ := Kd.S_get HO_13.out z41 x19_2 p454 (by first | exact q454 | exact of_decide_eq_true (by first | (with_reducible assumption) | assumption) | (have e_ := (Kd.S_reads' HO_13.out).1; omega))
                obtain ⟨ve454_4, rfl, ge454_4⟩ := k41_openM hMe454
                have hv454_4 := hcc454 4 _ rfl
                rw [add_field _ _ 4 (by omega)] at hv454_4
                replace hv454_4 := Option.some.inj (hv454_4.symm.trans hx454_4)
                rw [hv454_4] at ge454_4
                have HL454_4 := Aside0.mk (show Kd.R Kd.string 9 _ _ _ _ ((rd_T41 t439 x19_2).f4) from ge454_4)
                clear hv454_4 ge454_4
                clear hcc454 hce454
                have HR454_4 := Aside0.mk hi454_4
                have HC454_4 := Aside0.mk hl454_4
                clear hi454_4 hl454_4
                replace p454 := eq_true p454
                replace q454 := eq_true q454
                have p455 : 0 ≤ (x19_2 : Int) := of_decide_eq_true (by first | (with_reducible assumption) | assumption)
                have q455 : x19_2 < (t439.length : Int) := of_decide_eq_true (by first | (with_reducible assumption) | assumption)
                obtain ⟨ad455, A455_4, c455_4, e455, hx455_0, hx455_1, hx455_2, hx455_3, hx455_4, hl455_4, hi455_4⟩ := at_T41 (Kd.S_reads' HO_13.out).2.2 x19_2 p455 q455
                obtain rfl : ad454 = ad455 := (by injection e455)
                obtain ⟨ce455, hce455, hMe455, hcc455⟩ := Kd.S_get HO_13.out z41 x19_2 p455 (by first | exact q455 | exact of_decide_eq_true (by first | (with_reducible assumption) | assumption) | (have e_ := (Kd.S_reads' HO_13.out).1; omega))
                obtain ⟨ve455_4, rfl, ge455_4⟩ := k41_openM hMe455
                have hv455_4 := hcc455 4 _ rfl
                rw [add_field _ _ 4 (by omega)] at hv455_4
                replace hv455_4 := Option.some.inj (hv455_4.symm.trans hx455_4)
                rw [hv455_4] at ge455_4
                have HL455_4 := Aside0.mk (show Kd.R Kd.string 9 _ _ _ _ ((rd_T41 t439 x19_2).f4) from ge455_4)
                clear hv455_4 ge455_4
                clear hcc455 hce455
                have HR455_4 := Aside0.mk hi455_4
                have HC455_4 := Aside0.mk hl455_4
                clear hi455_4 hl455_4
                replace p455 := eq_true p455
                replace q455 := eq_true q455
                have ea_ := Option.some.inj (hx454_4.symm.trans hx455_4)
                injection ea_ with ea_ en_ ec_
                subst ea_
                subst ec_
                clear en_
                have p456 : 0 ≤ (x19_2 : Int) := of_decide_eq_true (by first | (with_reducible assumption) | assumption)
                have q456 : x19_2 < (t439.length : Int) := of_decide_eq_true (by first | (with_reducible assumption) | assumption)
                obtain ⟨ad456, A456_4, c456_4, e456, hx456_0, hx456_1, hx456_2, hx456_3, hx456_4, hl456_4, hi456_4⟩ := at_T41 (Kd.S_reads' HO_13.out).2.2 x19_2 p456 q456
                obtain rfl : ad454 = ad456 := (by injection e456)
                obtain ⟨ce456, hce456, hMe456, hcc456⟩ := Kd.S_get HO_13.out z41 x19_2 p456 (by first | exact q456 | exact of_decide_eq_true (by first | (with_reducible assumption) | assumption) | (have e_ := (Kd.S_reads' HO_13.out).1; omega))
                obtain ⟨ve456_4, rfl, ge456_4⟩ := k41_openM hMe456
                have hv456_4 := hcc456 4 _ rfl
                rw [add_field _ _ 4 (by omega)] at hv456_4
                replace hv456_4 := Option.some.inj (hv456_4.symm.trans hx456_4)
                rw [hv456_4] at ge456_4
                have HL456_4 := Aside0.mk (show Kd.R Kd.string 9 _ _ _ _ ((rd_T41 t439 x19_2).f4) from ge456_4)
                clear hv456_4 ge456_4
                clear hcc456 hce456
                have HR456_4 := Aside0.mk hi456_4
                have HC456_4 := Aside0.mk hl456_4
                clear hi456_4 hl456_4
                replace p456 := eq_true p456
                replace q456 := eq_true q456
                have ea_ := Option.some.inj (hx454_4.symm.trans hx456_4)
                injection ea_ with ea_ en_ ec_
                subst ea_
                subst ec_
                clear en_
                go_wp2
                repeat (go_quiet (fail); try go_wp2)
                go_roundg k2
                case measure => have := HJ6.out; have := HK2.out; omega
                case rel => exact ⟨(decide (ji13 < (wrap64 (((rd_T41 t439 x19_2).f0) + ((rd_T41 t439 x19_2).f1))))), (wrap64 (x19_2 + 1)), (by first | rfl | (simp; done) | (simp only [← hji13] <;> (first | rfl | simp)) | (simp [*]; done)), (by first | rfl | (simp; done) | (simp [*]; done)), H', ⟨by have := HJ6.out; have := HK2.out; omega⟩, ⟨by (with_reducible repeat (first | apply Kd.S_alloc | apply Kd.S_drewN | apply Kd.S_drew)); exact HO_13.out⟩, ⟨by (with_reducible repeat (first | apply Kd.R_alloc | apply Kd.R_drewN | apply Kd.R_drew)); exact HO_16.out⟩, ⟨by repeat (first | (with_reducible first | exact HB.out | apply below_alloc | apply pw_below_drewN | apply below_drew1) | exact HB.out)⟩⟩
               ·rw [if_neg c33] at H
                have c33b0 : decide (((rd_T41 t439 x19_2).f0) ≤ ji13) = false := decide_eq_false c33
                clear c33
                have H' := Aside0.mk H
                clear H
                have p454 : 0 ≤ (x19_2 : Int) := of_decide_eq_true (by first | (with_reducible assumption) | assumption)
                have q454 : x19_2 < (t439.length : Int) := of_decide_eq_true (by first | (with_reducible assumption) | assumption)
                obtain ⟨ad454, A454_4, c454_4, e454, hx454_0, hx454_1, hx454_2, hx454_3, hx454_4, hl454_4, hi454_4⟩ := at_T41 (Kd.S_reads' HO_13.out).2.2 x19_2 p454 q454
                cases e454
                obtain ⟨ce454, hce454, hMe454, hcc454⟩ := Kd.S_get HO_13.out z41 x19_2 p454 (by first | exact q454 | exact of_decide_eq_true (by first | (with_reducible assumption) | assumption) | (have e_ := (Kd.S_reads' HO_13.out).1; omega))
                obtain ⟨ve454_4, rfl, ge454_4⟩ := k41_openM hMe454
                have hv454_4 := hcc454 4 _ rfl
                rw [add_field _ _ 4 (by omega)] at hv454_4
                replace hv454_4 := Option.some.inj (hv454_4.symm.trans hx454_4)
                rw [hv454_4] at ge454_4
                have HL454_4 := Aside0.mk (show Kd.R Kd.string 9 _ _ _ _ ((rd_T41 t439 x19_2).f4) from ge454_4)
                clear hv454_4 ge454_4
                clear hcc454 hce454
                have HR454_4 := Aside0.mk hi454_4
                have HC454_4 := Aside0.mk hl454_4
                clear hi454_4 hl454_4
                replace p454 := eq_true p454
                replace q454 := eq_true q454
                go_wp2
                repeat (go_quiet (fail); try go_wp2)
                go_roundg k2
                case measure => have := HJ6.out; have := HK2.out; omega
                case rel => exact ⟨(false), (wrap64 (x19_2 + 1)), (by first | rfl | (simp; done) | (simp [*]; done)), (by first | rfl | (simp; done) | (simp [*]; done)), H', ⟨by have := HJ6.out; have := HK2.out; omega⟩, ⟨by (with_reducible repeat (first | apply Kd.S_alloc | apply Kd.S_drewN | apply Kd.S_drew)); exact HO_13.out⟩, ⟨by (with_reducible repeat (first | apply Kd.R_alloc | apply Kd.R_drewN | apply Kd.R_drew)); exact HO_16.out⟩, ⟨by repeat (first | (with_reducible first | exact HB.out | apply below_alloc | apply pw_below_drewN | apply below_drew1) | exact HB.out)⟩⟩
              ·rw [if_neg c32] at H
               exact absurd H (by simp)
            ·rw [if_neg c30] at H
             have c30b0 : decide (x19_2 < (t439.length : Int)) = false := decide_eq_false c30
             clear c30
             by_cases c34 : t440 = 0
             ·rw [if_pos c34] at H
              have c34b0 : (t440 == 0) = true := beq_iff_eq.mpr c34
              have c34b1 : (t440 != 0) = false := bne_eq_false_iff_eq.mpr c34
              clear c34
              by_cases c35 : x18_2 = true
              ·subst c35
               have H1 : (if t437 = true then (if t451 = 6 then (some ((t450.length : Int) == 0)) else (some false)) else (some false)) = some r := by rw [if_pos rfl] at H; exact H
               clear H
               have H := H1
               clear H1
               by_cases c36 : t437 = true
               ·subst c36
                have H1 : (if t451 = 6 then (some ((t450.length : Int) == 0)) else (some false)) = some r := by rw [if_pos rfl] at H; exact H
                clear H
                have H := H1
                clear H1
                by_cases c37 : t451 = 6
                ·rw [if_pos c37] at H
                 have c37b0 : (t451 == 6) = true := beq_iff_eq.mpr c37
                 have c37b1 : (t451 != 6) = false := bne_eq_false_iff_eq.mpr c37
                 clear c37
                 obtain rfl := Option.some.inj H
                 obtain ⟨Ao38, co38, eo38⟩ := Kd.R_slice HO_16.out
                 subst eo38
                 go_wp2
                 go_ret
                 exact ⟨by first | rfl | (simp [errW_none, errW_some] <;> rfl) | (simp only [← hji13]; first | rfl | (simp [errW_none, errW_some] <;> rfl)) | (simp [*, errW_none, errW_some] <;> rfl), by repeat (first | (with_reducible first | exact HB.out | apply below_alloc | apply pw_below_drewN | apply below_drew1) | exact HB.out)⟩
                ·rw [if_neg c37] at H
                 have c37b0 : (t451 == 6) = false := beq_eq_false_iff_ne.mpr c37
                 have c37b1 : (t451 != 6) = true := bne_iff_ne.mpr c37
                 exact absurd (H.trans (congrArg some hrt_.out)) (by simp)
               ·replace c36 := Bool.eq_false_iff.mpr c36
                subst c36
                have H1 : (some false) = some r := by rw [if_neg (show ¬ (false = true) by decide)] at H; exact H
                clear H
                have H := H1
                clear H1
                exact absurd (H.trans (congrArg some hrt_.out)) (by simp)
              ·replace c35 := Bool.eq_false_iff.mpr c35
               subst c35
               have H1 : (grapevinelaw07_ApplyExact.l1 k2 l1 a4 t437 t450 t451 false 0) = some r := by rw [if_neg (show ¬ (false = true) by decide)] at H; exact H
               clear H
               have H := H1
               clear H1
               have H' := Aside0.mk H
               clear H
               go_wp2
               go_loopg [20, 21] k2 (fun kq v20 v21 w' => ∃ (x20_3 : Bool) (x21_3 : Int), v20 = .bool x20_3 ∧ v21 = .int .i64 x21_3 ∧ Aside0 (grapevinelaw07_ApplyExact.l1 kq l1 a4 t437 t450 t451 x20_3 x21_3 = some r) ∧ Aside0 (kq ≤ k2) ∧ Aside0 (Kd.R Kd.string 9 w' w.heap.size (fun _ => True) v452 t450) ∧ Aside0 (Below w.heap.size w w'))
               case atStart => exact ⟨(false), (0), (by first | rfl | (simp; done) | (simp [*]; done)), (by first | rfl | (simp; done) | (simp [*]; done)), H', ⟨Nat.le_refl _⟩, ⟨by (with_reducible repeat (first | apply Kd.R_alloc | apply Kd.R_drewN | apply Kd.R_drew)); exact HO_16.out⟩, ⟨by repeat (first | (with_reducible first | exact HB.out | apply below_alloc | apply pw_below_drewN | apply below_drew1) | exact HB.out)⟩⟩
               case round =>
                clear H'
                try clear c1
                try clear p2
                try clear q2
                try clear hx2
                try clear c3
                try clear c4
                try clear p4
                try clear q4
                try clear hx4
                try clear c6
                try clear p6
                try clear c9
                try clear c9b0
                try clear c9b1
                try clear c9b2
                try clear c10
                try clear c10b0
                try clear c10b1
                try clear c11
                try clear c12
                try clear c12b0
                try clear c12b1
                try clear c12b2
                try clear c14
                try clear c14b0
                try clear c15
                try clear c15b0
                try clear c16
                try clear c16b0
                try clear c16b1
                try clear c18
                try clear c19
                try clear c19b0
                try clear p20
                try clear q20
                try clear hx20
                try clear hf20
                try clear c30
                try clear c30b0
                try clear c31
                try clear c32
                try clear c32b0
                try clear c33
                try clear c33b0
                try clear c34
                try clear c34b0
                try clear c34b1
                try clear c35
                try clear c36
                try clear c37
                try clear c37b0
                try clear c37b1
                try clear hx20_0
                try clear hx438_0
                try clear hx454_0
                try clear hx454_1
                try clear hx454_2
                try clear hx454_3
                try clear hx454_4
                try clear hx455_0
                try clear hx455_1
                try clear hx455_2
                try clear hx455_3
                try clear hx455_4
                try clear hx456_0
                try clear hx456_1
                try clear hx456_2
                try clear hx456_3
                try clear hx456_4
                try clear p2
                try clear p20
                try clear p4
                try clear p438
                try clear p454
                try clear p455
                try clear p456
                try clear p6
                try clear q2
                try clear q20
                try clear q4
                try clear q438
                try clear q454
                try clear q455
                try clear q456
                obtain ⟨x20_3, x21_3, rfl, rfl, HA, HK3, HO_16, HB⟩ := hrel
                cases gk with
                | zero => exact absurd HA.out (by simp [grapevinelaw07_ApplyExact.l1])
                | succ k3 =>
                 have H := HA.out
                 clear HA
                 simp only [grapevinelaw07_ApplyExact.l1] at H
                 by_cases c39 : x21_3 < (t450.length : Int)
                 ·rw [if_pos c39] at H
                  have c39b0 : decide (x21_3 < (t450.length : Int)) = true := decide_eq_true c39
                  clear c39
                  by_cases c40 : x20_3 = true
                  ·subst c40
                   have H1 : (grapevinelaw07_ApplyExact.l1 k3 l1 a4 t437 t450 t451 true (wrap64 (x21_3 + 1))) = some r := by rw [if_pos rfl] at H; exact H
                   clear H
                   have H := H1
                   clear H1
                   have H' := Aside0.mk H
                   clear H
                   obtain ⟨Ao41, co41, eo41⟩ := Kd.R_slice HO_16.out
                   subst eo41
                   go_wp2
                   go_roundg k3
                   case measure => have := HJ6.out; have := HK2.out; have := HK3.out; omega
                   case rel => exact ⟨(true), (wrap64 (x21_3 + 1)), (by first | rfl | (simp; done) | (simp [*]; done)), (by first | rfl | (simp; done) | (simp [*]; done)), H', ⟨by have := HJ6.out; have := HK2.out; have := HK3.out; omega⟩, ⟨by (with_reducible repeat (first | apply Kd.R_alloc | apply Kd.R_drewN | apply Kd.R_drew)); exact HO_16.out⟩, ⟨by repeat (first | (with_reducible first | exact HB.out | apply below_alloc | apply pw_below_drewN | apply below_drew1) | exact HB.out)⟩⟩
                  ·replace c40 := Bool.eq_false_iff.mpr c40
                   subst c40
                   have H1 : (if 0 ≤ x21_3 then (grapevinelaw07_ApplyExact.l1 k3 l1 a4 t437 t450 t451 ((rdOf ByteArray.empty t450 x21_3).toList == a4.toList) (wrap64 (x21_3 + 1))) else (none)) = some r := by rw [if_neg (show ¬ (false = true) by decide)] at H; exact H
                   clear H
                   have H := H1
                   clear H1
                   by_cases c42 : 0 ≤ x21_3
                   ·rw [if_pos c42] at H
                    have c42b0 : decide (0 ≤ x21_3) = true := decide_eq_true c42
                    clear c42
                    have H' := Aside0.mk H
                    clear H
                    obtain ⟨Ao43, co43, eo43⟩ := Kd.R_slice HO_16.out
                    subst eo43
                    have p457 : 0 ≤ (x21_3 : Int) := of_decide_eq_true (by first | (with_reducible assumption) | assumption)
                    have q457 : x21_3 < (t450.length : Int) := of_decide_eq_true (by first | (with_reducible assumption) | assumption)
                    obtain ⟨ad457, e457, hx457_0⟩ := Kd.at_string (Kd.R_reads' HO_16.out).2.2 x21_3 p457 q457
                    cases e457
                    replace p457 := eq_true p457
                    replace q457 := eq_true q457
                    go_wp2
                    go_roundg k3
                    case measure => have := HJ6.out; have := HK2.out; have := HK3.out; omega
                    case rel => exact ⟨(((rdOf ByteArray.empty t450 x21_3).toList == a4.toList)), (wrap64 (x21_3 + 1)), (by first | rfl | (simp; done) | (simp [*]; done)), (by first | rfl | (simp; done) | (simp [*]; done)), H', ⟨by have := HJ6.out; have := HK2.out; have := HK3.out; omega⟩, ⟨by (with_reducible repeat (first | apply Kd.R_alloc | apply Kd.R_drewN | apply Kd.R_drew)); exact HO_16.out⟩, ⟨by repeat (first | (with_reducible first | exact HB.out | apply below_alloc | apply pw_below_drewN | apply below_drew1) | exact HB.out)⟩⟩
                   ·rw [if_neg c42] at H
                    exact absurd H (by simp)
                 ·rw [if_neg c39] at H
                  have c39b0 : decide (x21_3 < (t450.length : Int)) = false := decide_eq_false c39
                  clear c39
                  by_cases c44 : t437 = true
                  ·subst c44
                   have H1 : (if t451 = 0 then (if x20_3 = true then (some ((t450.length : Int) == (l1.length : Int))) else (some false)) else (some false)) = some r := by rw [if_pos rfl] at H; exact H
                   clear H
                   have H := H1
                   clear H1
                   by_cases c45 : t451 = 0
                   ·rw [if_pos c45] at H
                    have c45b0 : (t451 == 0) = true := beq_iff_eq.mpr c45
                    have c45b1 : (t451 != 0) = false := bne_eq_false_iff_eq.mpr c45
                    clear c45
                    by_cases c46 : x20_3 = true
                    ·subst c46
                     have H1 : (some ((t450.length : Int) == (l1.length : Int))) = some r := by rw [if_pos rfl] at H; exact H
                     clear H
                     have H := H1
                     clear H1
                     obtain rfl := Option.some.inj H
                     obtain ⟨Ao47, co47, eo47⟩ := Kd.R_slice HO_16.out
                     subst eo47
                     go_wp2
                     go_ret
                     exact ⟨by first | rfl | (simp [errW_none, errW_some] <;> rfl) | (simp only [← hji13]; first | rfl | (simp [errW_none, errW_some] <;> rfl)) | (simp [*, errW_none, errW_some] <;> rfl), by repeat (first | (with_reducible first | exact HB.out | apply below_alloc | apply pw_below_drewN | apply below_drew1) | exact HB.out)⟩
                    ·replace c46 := Bool.eq_false_iff.mpr c46
                     subst c46
                     have H1 : (some false) = some r := by rw [if_neg (show ¬ (false = true) by decide)] at H; exact H
                     clear H
                     have H := H1
                     clear H1
                     exact absurd (H.trans (congrArg some hrt_.out)) (by simp)
                   ·rw [if_neg c45] at H
                    have c45b0 : (t451 == 0) = false := beq_eq_false_iff_ne.mpr c45
                    have c45b1 : (t451 != 0) = true := bne_iff_ne.mpr c45
                    exact absurd (H.trans (congrArg some hrt_.out)) (by simp)
                  ·replace c44 := Bool.eq_false_iff.mpr c44
                   subst c44
                   have H1 : (some false) = some r := by rw [if_neg (show ¬ (false = true) by decide)] at H; exact H
                   clear H
                   have H := H1
                   clear H1
                   exact absurd (H.trans (congrArg some hrt_.out)) (by simp)
             ·rw [if_neg c34] at H
              have c34b0 : (t440 == 0) = false := beq_eq_false_iff_ne.mpr c34
              have c34b1 : (t440 != 0) = true := bne_iff_ne.mpr c34
              exact absurd (H.trans (congrArg some hrt_.out)) (by simp)
         ·rw [if_neg c19] at H
          exact absurd H (by simp)
        ·rw [if_neg c18] at H
         exact absurd H (by simp)
      ·rw [if_neg c15] at H
       exact absurd H (by simp)
     ·rw [if_neg c14] at H
      exact absurd H (by simp)


end Go.Proofs.Ytoaijganmfijmaa.Pr
-- shrunk
