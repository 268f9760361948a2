/-
Several plain texts in one.
-/
import Derived.Test.YtoaijganmfijmaaK0
import Derived.Test.YtoaijganmfijmaaK3
import Derived.Test.YtoaijganmfijmaaK2
import Derived.Test.YtoaijganmfijmaaK4
import Derived.Test.YtoaijganmfijmaaK1
import Derived.Deep.Strs
import Derived.SizedLaws
import Derived.ChangeOld
import Derived.Carry
import Derived.Test.YtoaijganmfijmaaWWords
import Derived.Test.YtoaijganmfijmaaWMore
import Derived.Test.YtoaijganmfijmaaWLast
import Derived.KernelRfl
-- written by a program of this session's (a turned copy of the kit's printer); Lean checks it
namespace Go.Proofs.Ytoaijganmfijmaa.Pr
open Go.RowKit Go.Proofs.YtoaijganmfijmaaW.PrintWords Go.Proofs.YtoaijganmfijmaaW.PrintLast Go.Proofs.YtoaijganmfijmaaW.PrintMore
attribute [local go_sem] max2_int min2_int max_two min_two max_three min_three max_four min_four   -- for this text's walks alone
set_option linter.unusedVariables false
set_option linter.unusedSimpArgs false

def grapevinelaw07_awake0.f (k : Nat)  : Option (Bool) := (some (([(⟨0, 1, 0, 1, (([(⟨#[45, 97]⟩ : ByteArray), (⟨#[43, 98]⟩ : ByteArray)] : List ByteArray))⟩ : S41)] : List (S41)) : List (S41))).bind fun y288 => ((apply_Apply.f (([(⟨#[97]⟩ : ByteArray)] : List ByteArray)) y288).bind fun bt294 => ((apply_Apply.f (([(⟨#[99]⟩ : ByteArray)] : List ByteArray)) y288).bind fun bt301 => ((apply_Between.f k (([(⟨#[97]⟩ : ByteArray)] : List ByteArray)) (([(⟨#[98]⟩ : ByteArray)] : List ByteArray)) 0).bind fun bt311 => (if bt294.2 = 0 then ((grapevineref01_Texts.f k bt294.1 (([(⟨#[98]⟩ : ByteArray)] : List ByteArray))).bind fun t318 => (if t318 = true then (if bt301.2 = 6 then (if bt311.2 = 0 then ((grapevineref05_Same.f k bt311.1 y288).bind fun t319 => (if t319 = true then ((apply_Right.f k y288).bind fun t320 => (if t320 = true then ((apply_Turn.f k y288).bind fun t321 => (some ((t321.length : Int) == 1))) else (some false))) else (some false))) else (some false)) else (some false)) else (some false))) else (some false)))))
theorem grapevinelaw07_awake0.mono : ∀ k, LeO (grapevinelaw07_awake0.f k ) (grapevinelaw07_awake0.f (k + 1) ) := by
 intro  k
 unfold grapevinelaw07_awake0.f
 repeat' first
   | (with_reducible exact apply_Between.mono _ _ _ _)
   | (with_reducible exact apply_Right.mono _ _)
   | (with_reducible exact apply_Turn.mono _ _)
   | (with_reducible exact grapevineref01_Texts.mono _ _ _)
   | (with_reducible exact grapevineref05_Same.mono _ _ _)
   | (with_reducible exact LeO.refl _)
   | (with_reducible exact LeO.none _)
   | (with_reducible refine LeO.ite ?_ ?_)
   | (with_reducible refine LeO.bind ?_ (fun _ => ?_))
   | exact apply_Between.mono _ _ _ _
   | exact apply_Right.mono _ _
   | exact apply_Turn.mono _ _
   | exact grapevineref01_Texts.mono _ _ _
   | exact grapevineref05_Same.mono _ _ _
   | exact LeO.none _
   | refine LeO.ite ?_ ?_
   | refine LeO.bind ?_ (fun _ => ?_)
set_option maxHeartbeats 8000000 in
set_option maxRecDepth 100000 in
theorem grapevinelaw07_awake0.calls (k : Nat)  (r : Bool) (w : World) (hrt_ : Aside0 (r = true)) (h : grapevinelaw07_awake0.f k  = some r) :
  Calls Try.prog 10 #[] w fun e w' => e = .returned (.bool r) ∧ Below w.heap.size w w' := by
 have hu41 := Try.underlying41
 have HB := Aside0.mk (Below.refl w.heap.size w)
 have H : ((some (([(⟨0, 1, 0, 1, (([(⟨#[45, 97]⟩ : ByteArray), (⟨#[43, 98]⟩ : ByteArray)] : List ByteArray))⟩ : S41)] : List (S41)) : List (S41))).bind fun y288 => ((apply_Apply.f (([(⟨#[97]⟩ : ByteArray)] : List ByteArray)) y288).bind fun bt294 => ((apply_Apply.f (([(⟨#[99]⟩ : ByteArray)] : List ByteArray)) y288).bind fun bt301 => ((apply_Between.f k (([(⟨#[97]⟩ : ByteArray)] : List ByteArray)) (([(⟨#[98]⟩ : ByteArray)] : List ByteArray)) 0).bind fun bt311 => (if bt294.2 = 0 then ((grapevineref01_Texts.f k bt294.1 (([(⟨#[98]⟩ : ByteArray)] : List ByteArray))).bind fun t318 => (if t318 = true then (if bt301.2 = 6 then (if bt311.2 = 0 then ((grapevineref05_Same.f k bt311.1 y288).bind fun t319 => (if t319 = true then ((apply_Right.f k y288).bind fun t320 => (if t320 = true then ((apply_Turn.f k y288).bind fun t321 => (some ((t321.length : Int) == 1))) else (some false))) else (some false))) else (some false)) else (some false)) else (some false))) else (some false)))))) = some r := h
 clear h
 obtain ⟨y285, hy285⟩ : ∃ y_ : List ByteArray, y_ = (([(⟨#[45, 97]⟩ : ByteArray), (⟨#[43, 98]⟩ : ByteArray)] : List ByteArray)) := ⟨_, rfl⟩
 replace H : ((some (([(⟨0, 1, 0, 1, y285⟩ : S41)] : List (S41)) : List (S41))).bind fun y288 => ((apply_Apply.f (([(⟨#[97]⟩ : ByteArray)] : List ByteArray)) y288).bind fun bt294 => ((apply_Apply.f (([(⟨#[99]⟩ : ByteArray)] : List ByteArray)) y288).bind fun bt301 => ((apply_Between.f k (([(⟨#[97]⟩ : ByteArray)] : List ByteArray)) (([(⟨#[98]⟩ : ByteArray)] : List ByteArray)) 0).bind fun bt311 => (if bt294.2 = 0 then ((grapevineref01_Texts.f k bt294.1 (([(⟨#[98]⟩ : ByteArray)] : List ByteArray))).bind fun t318 => (if t318 = true then (if bt301.2 = 6 then (if bt311.2 = 0 then ((grapevineref05_Same.f k bt311.1 y288).bind fun t319 => (if t319 = true then ((apply_Right.f k y288).bind fun t320 => (if t320 = true then ((apply_Turn.f k y288).bind fun t321 => (some ((t321.length : Int) == 1))) else (some false))) else (some false))) else (some false)) else (some false)) else (some false))) else (some false)))))) = some r := by first | (rw [hy285]; with_reducible exact H) | (have H2_ := (Option.bind_some _ _).symm.trans H; rw [hy285]; with_reducible exact H2_) | (have H2_ := (Option.bind_some _ _).symm.trans H; with_reducible exact H2_) | with_reducible exact H | (rw [hy285]; exact H) | exact H
 have Ny285 := Aside0.mk hy285
 clear hy285
 obtain ⟨y288, hy288⟩ : ∃ y_ : List (S41), y_ = (([(⟨0, 1, 0, 1, y285⟩ : S41)] : List (S41))) := ⟨_, rfl⟩
 replace H : ((apply_Apply.f (([(⟨#[97]⟩ : ByteArray)] : List ByteArray)) y288).bind fun bt294 => ((apply_Apply.f (([(⟨#[99]⟩ : ByteArray)] : List ByteArray)) y288).bind fun bt301 => ((apply_Between.f k (([(⟨#[97]⟩ : ByteArray)] : List ByteArray)) (([(⟨#[98]⟩ : ByteArray)] : List ByteArray)) 0).bind fun bt311 => (if bt294.2 = 0 then ((grapevineref01_Texts.f k bt294.1 (([(⟨#[98]⟩ : ByteArray)] : List ByteArray))).bind fun t318 => (if t318 = true then (if bt301.2 = 6 then (if bt311.2 = 0 then ((grapevineref05_Same.f k bt311.1 y288).bind fun t319 => (if t319 = true then ((apply_Right.f k y288).bind fun t320 => (if t320 = true then ((apply_Turn.f k y288).bind fun t321 => (some ((t321.length : Int) == 1))) else (some false))) else (some false))) else (some false)) else (some false)) else (some false))) else (some false))))) = some r := by first | (rw [hy288]; with_reducible exact H) | (have H2_ := (Option.bind_some _ _).symm.trans H; rw [hy288]; with_reducible exact H2_) | (have H2_ := (Option.bind_some _ _).symm.trans H; with_reducible exact H2_) | with_reducible exact H | (rw [hy288]; exact H) | exact H
 have Ny288 := Aside0.mk hy288
 clear hy288
 obtain ⟨y291, hy291⟩ : ∃ y_ : List ByteArray, y_ = (([(⟨#[97]⟩ : ByteArray)] : List ByteArray)) := ⟨_, rfl⟩
 replace H : ((apply_Apply.f y291 y288).bind fun bt294 => ((apply_Apply.f (([(⟨#[99]⟩ : ByteArray)] : List ByteArray)) y288).bind fun bt301 => ((apply_Between.f k (([(⟨#[97]⟩ : ByteArray)] : List ByteArray)) (([(⟨#[98]⟩ : ByteArray)] : List ByteArray)) 0).bind fun bt311 => (if bt294.2 = 0 then ((grapevineref01_Texts.f k bt294.1 (([(⟨#[98]⟩ : ByteArray)] : List ByteArray))).bind fun t318 => (if t318 = true then (if bt301.2 = 6 then (if bt311.2 = 0 then ((grapevineref05_Same.f k bt311.1 y288).bind fun t319 => (if t319 = true then ((apply_Right.f k y288).bind fun t320 => (if t320 = true then ((apply_Turn.f k y288).bind fun t321 => (some ((t321.length : Int) == 1))) else (some false))) else (some false))) else (some false)) else (some false)) else (some false))) else (some false))))) = some r := by first | (rw [hy291]; with_reducible exact H) | (have H2_ := (Option.bind_some _ _).symm.trans H; rw [hy291]; with_reducible exact H2_) | (have H2_ := (Option.bind_some _ _).symm.trans H; with_reducible exact H2_) | with_reducible exact H | (rw [hy291]; exact H) | exact H
 have Ny291 := Aside0.mk hy291
 clear hy291
 replace H := Option.bind_eq_some_iff.mp H
 obtain ⟨⟨t294, t295⟩, A10, H⟩ := H
 replace H : ((apply_Apply.f (([(⟨#[99]⟩ : ByteArray)] : List ByteArray)) y288).bind fun bt301 => ((apply_Between.f k (([(⟨#[97]⟩ : ByteArray)] : List ByteArray)) (([(⟨#[98]⟩ : ByteArray)] : List ByteArray)) 0).bind fun bt311 => (if t295 = 0 then ((grapevineref01_Texts.f k t294 (([(⟨#[98]⟩ : ByteArray)] : List ByteArray))).bind fun t318 => (if t318 = true then (if bt301.2 = 6 then (if bt311.2 = 0 then ((grapevineref05_Same.f k bt311.1 y288).bind fun t319 => (if t319 = true then ((apply_Right.f k y288).bind fun t320 => (if t320 = true then ((apply_Turn.f k y288).bind fun t321 => (some ((t321.length : Int) == 1))) else (some false))) else (some false))) else (some false)) else (some false)) else (some false))) else (some false)))) = some r := H
 have A1 := Aside0.mk A10
 clear A10
 obtain ⟨y298, hy298⟩ : ∃ y_ : List ByteArray, y_ = (([(⟨#[99]⟩ : ByteArray)] : List ByteArray)) := ⟨_, rfl⟩
 replace H : ((apply_Apply.f y298 y288).bind fun bt301 => ((apply_Between.f k (([(⟨#[97]⟩ : ByteArray)] : List ByteArray)) (([(⟨#[98]⟩ : ByteArray)] : List ByteArray)) 0).bind fun bt311 => (if t295 = 0 then ((grapevineref01_Texts.f k t294 (([(⟨#[98]⟩ : ByteArray)] : List ByteArray))).bind fun t318 => (if t318 = true then (if bt301.2 = 6 then (if bt311.2 = 0 then ((grapevineref05_Same.f k bt311.1 y288).bind fun t319 => (if t319 = true then ((apply_Right.f k y288).bind fun t320 => (if t320 = true then ((apply_Turn.f k y288).bind fun t321 => (some ((t321.length : Int) == 1))) else (some false))) else (some false))) else (some false)) else (some false)) else (some false))) else (some false)))) = some r := by first | (rw [hy298]; with_reducible exact H) | (have H2_ := (Option.bind_some _ _).symm.trans H; rw [hy298]; with_reducible exact H2_) | (have H2_ := (Option.bind_some _ _).symm.trans H; with_reducible exact H2_) | with_reducible exact H | (rw [hy298]; exact H) | exact H
 have Ny298 := Aside0.mk hy298
 clear hy298
 replace H := Option.bind_eq_some_iff.mp H
 obtain ⟨⟨t301, t302⟩, A20, H⟩ := H
 replace H : ((apply_Between.f k (([(⟨#[97]⟩ : ByteArray)] : List ByteArray)) (([(⟨#[98]⟩ : ByteArray)] : List ByteArray)) 0).bind fun bt311 => (if t295 = 0 then ((grapevineref01_Texts.f k t294 (([(⟨#[98]⟩ : ByteArray)] : List ByteArray))).bind fun t318 => (if t318 = true then (if t302 = 6 then (if bt311.2 = 0 then ((grapevineref05_Same.f k bt311.1 y288).bind fun t319 => (if t319 = true then ((apply_Right.f k y288).bind fun t320 => (if t320 = true then ((apply_Turn.f k y288).bind fun t321 => (some ((t321.length : Int) == 1))) else (some false))) else (some false))) else (some false)) else (some false)) else (some false))) else (some false))) = some r := H
 have A2 := Aside0.mk A20
 clear A20
 obtain ⟨y305, hy305⟩ : ∃ y_ : List ByteArray, y_ = (([(⟨#[97]⟩ : ByteArray)] : List ByteArray)) := ⟨_, rfl⟩
 replace H : ((apply_Between.f k y305 (([(⟨#[98]⟩ : ByteArray)] : List ByteArray)) 0).bind fun bt311 => (if t295 = 0 then ((grapevineref01_Texts.f k t294 (([(⟨#[98]⟩ : ByteArray)] : List ByteArray))).bind fun t318 => (if t318 = true then (if t302 = 6 then (if bt311.2 = 0 then ((grapevineref05_Same.f k bt311.1 y288).bind fun t319 => (if t319 = true then ((apply_Right.f k y288).bind fun t320 => (if t320 = true then ((apply_Turn.f k y288).bind fun t321 => (some ((t321.length : Int) == 1))) else (some false))) else (some false))) else (some false)) else (some false)) else (some false))) else (some false))) = some r := by first | (rw [hy305]; with_reducible exact H) | (have H2_ := (Option.bind_some _ _).symm.trans H; rw [hy305]; with_reducible exact H2_) | (have H2_ := (Option.bind_some _ _).symm.trans H; with_reducible exact H2_) | with_reducible exact H | (rw [hy305]; exact H) | exact H
 have Ny305 := Aside0.mk hy305
 clear hy305
 obtain ⟨y308, hy308⟩ : ∃ y_ : List ByteArray, y_ = (([(⟨#[98]⟩ : ByteArray)] : List ByteArray)) := ⟨_, rfl⟩
 replace H : ((apply_Between.f k y305 y308 0).bind fun bt311 => (if t295 = 0 then ((grapevineref01_Texts.f k t294 (([(⟨#[98]⟩ : ByteArray)] : List ByteArray))).bind fun t318 => (if t318 = true then (if t302 = 6 then (if bt311.2 = 0 then ((grapevineref05_Same.f k bt311.1 y288).bind fun t319 => (if t319 = true then ((apply_Right.f k y288).bind fun t320 => (if t320 = true then ((apply_Turn.f k y288).bind fun t321 => (some ((t321.length : Int) == 1))) else (some false))) else (some false))) else (some false)) else (some false)) else (some false))) else (some false))) = some r := by first | (rw [hy308]; with_reducible exact H) | (have H2_ := (Option.bind_some _ _).symm.trans H; rw [hy308]; with_reducible exact H2_) | (have H2_ := (Option.bind_some _ _).symm.trans H; with_reducible exact H2_) | with_reducible exact H | (rw [hy308]; exact H) | exact H
 have Ny308 := Aside0.mk hy308
 clear hy308
 replace H := Option.bind_eq_some_iff.mp H
 obtain ⟨⟨t311, t312⟩, A30, H⟩ := H
 replace H : (if t295 = 0 then ((grapevineref01_Texts.f k t294 (([(⟨#[98]⟩ : ByteArray)] : List ByteArray))).bind fun t318 => (if t318 = true then (if t302 = 6 then (if t312 = 0 then ((grapevineref05_Same.f k t311 y288).bind fun t319 => (if t319 = true then ((apply_Right.f k y288).bind fun t320 => (if t320 = true then ((apply_Turn.f k y288).bind fun t321 => (some ((t321.length : Int) == 1))) else (some false))) else (some false))) else (some false)) else (some false)) else (some false))) else (some false)) = some r := H
 have A3 := Aside0.mk A30
 clear A30
 by_cases c4 : t295 = 0
 ·rw [if_pos c4] at H
  have c4b0 : (t295 == 0) = true := beq_iff_eq.mpr c4
  have c4b1 : (t295 != 0) = false := bne_eq_false_iff_eq.mpr c4
  clear c4
  obtain ⟨y315, hy315⟩ : ∃ y_ : List ByteArray, y_ = (([(⟨#[98]⟩ : ByteArray)] : List ByteArray)) := ⟨_, rfl⟩
  replace H : ((grapevineref01_Texts.f k t294 y315).bind fun t318 => (if t318 = true then (if t302 = 6 then (if t312 = 0 then ((grapevineref05_Same.f k t311 y288).bind fun t319 => (if t319 = true then ((apply_Right.f k y288).bind fun t320 => (if t320 = true then ((apply_Turn.f k y288).bind fun t321 => (some ((t321.length : Int) == 1))) else (some false))) else (some false))) else (some false)) else (some false)) else (some false))) = some r := by first | (rw [hy315]; with_reducible exact H) | (have H2_ := (Option.bind_some _ _).symm.trans H; rw [hy315]; with_reducible exact H2_) | (have H2_ := (Option.bind_some _ _).symm.trans H; with_reducible exact H2_) | with_reducible exact H | (rw [hy315]; exact H) | exact H
  have Ny315 := Aside0.mk hy315
  clear hy315
  replace H := Option.bind_eq_some_iff.mp H
  obtain ⟨t318, A50, H⟩ := H
  replace H : (if t318 = true then (if t302 = 6 then (if t312 = 0 then ((grapevineref05_Same.f k t311 y288).bind fun t319 => (if t319 = true then ((apply_Right.f k y288).bind fun t320 => (if t320 = true then ((apply_Turn.f k y288).bind fun t321 => (some ((t321.length : Int) == 1))) else (some false))) else (some false))) else (some false)) else (some false)) else (some false)) = some r := H
  have A5 := Aside0.mk A50
  clear A50
  by_cases c6 : t318 = true
  ·subst c6
   have H1 : (if t302 = 6 then (if t312 = 0 then ((grapevineref05_Same.f k t311 y288).bind fun t319 => (if t319 = true then ((apply_Right.f k y288).bind fun t320 => (if t320 = true then ((apply_Turn.f k y288).bind fun t321 => (some ((t321.length : Int) == 1))) else (some false))) else (some false))) else (some false)) else (some false)) = some r := by rw [if_pos rfl] at H; exact H
   clear H
   have H := H1
   clear H1
   by_cases c7 : t302 = 6
   ·rw [if_pos c7] at H
    have c7b0 : (t302 == 6) = true := beq_iff_eq.mpr c7
    have c7b1 : (t302 != 6) = false := bne_eq_false_iff_eq.mpr c7
    clear c7
    by_cases c8 : t312 = 0
    ·rw [if_pos c8] at H
     have c8b0 : (t312 == 0) = true := beq_iff_eq.mpr c8
     have c8b1 : (t312 != 0) = false := bne_eq_false_iff_eq.mpr c8
     clear c8
     replace H := Option.bind_eq_some_iff.mp H
     obtain ⟨t319, A90, H⟩ := H
     replace H : (if t319 = true then ((apply_Right.f k y288).bind fun t320 => (if t320 = true then ((apply_Turn.f k y288).bind fun t321 => (some ((t321.length : Int) == 1))) else (some false))) else (some false)) = some r := H
     have A9 := Aside0.mk A90
     clear A90
     by_cases c10 : t319 = true
     ·subst c10
      have H1 : ((apply_Right.f k y288).bind fun t320 => (if t320 = true then ((apply_Turn.f k y288).bind fun t321 => (some ((t321.length : Int) == 1))) else (some false))) = some r := by rw [if_pos rfl] at H; exact H
      clear H
      have H := H1
      clear H1
      replace H := Option.bind_eq_some_iff.mp H
      obtain ⟨t320, A110, H⟩ := H
      replace H : (if t320 = true then ((apply_Turn.f k y288).bind fun t321 => (some ((t321.length : Int) == 1))) else (some false)) = some r := H
      have A11 := Aside0.mk A110
      clear A110
      by_cases c12 : t320 = true
      ·subst c12
       have H1 : ((apply_Turn.f k y288).bind fun t321 => (some ((t321.length : Int) == 1))) = some r := by rw [if_pos rfl] at H; exact H
       clear H
       have H := H1
       clear H1
       replace H := Option.bind_eq_some_iff.mp H
       obtain ⟨t321, A130, H⟩ := H
       replace H : (some ((t321.length : Int) == 1)) = some r := H
       have A13 := Aside0.mk A130
       clear A130
       obtain rfl := Option.some.inj H
       go_enter Try.func10, Try.ntmps10
       go_wp2_with (first | ((with_reducible refine gate_dst (N := 8) rfl ?_); (try (refine gate_guard (by rfl) ?_; dsimp only)); refine Kd.R_lit Kd.string _ 9 ?hg (N := 8) ?hd (xs := ([(⟨#[45, 97]⟩ : ByteArray), (⟨#[43, 98]⟩ : ByteArray)] : List ByteArray)) (inner := [.string (⟨#[45, 97]⟩ : ByteArray), .string (⟨#[43, 98]⟩ : ByteArray)]) (ok := fun _ => True) (okp := fun _ => True) ?hr ?hp (fun _ hk => hk) trivial (Below.refl _ _) (Nat.le_refl _) (by simp) ?_; (case hd => rfl); (case hg => rfl); (case hr => first | (go_simp; done) | (go_simp; rfl)); (case hp => exact (Reps.one (show Kd.M Kd.string _ _ _ (⟨#[45, 97]⟩ : ByteArray) [.string (⟨#[45, 97]⟩ : ByteArray)] from rfl) (Reps.one (show Kd.M Kd.string _ _ _ (⟨#[43, 98]⟩ : ByteArray) [.string (⟨#[43, 98]⟩ : ByteArray)] from rfl) (Reps.none _ _)))); intro v286 w14 ho15 hb hg_ hnew_; clear hg_ hnew_; (first | rw [← Ny285.out] at ho15 | (simp only [Int.reduceToNat] at ho15; rw [← Ny285.out] at ho15)); have n0_ := Aside0.mk (Kd.R_lower ho15 (below_size (by repeat (first | (with_reducible first | exact HB.out | apply below_alloc | apply pw_below_drewN | apply below_drew1) | exact HB.out)))); have n1_ := Aside0.mk (below_step (by repeat (first | (with_reducible first | exact HB.out | apply below_alloc | apply pw_below_drewN | apply below_drew1) | exact HB.out)) hb); clear HB; have HO287 := n0_; have HB := n1_; clear n0_ n1_; clear hb ho15; obtain ⟨Ao16, co16, eo16⟩ := Kd.R_slice HO287.out; subst eo16) | ((with_reducible refine gate_dst (N := 10) rfl ?_); (try (refine gate_guard (by rfl) ?_; dsimp only)); refine Kd.N_lit k41 _ 41 ?hg (N' := 10) ?hd (xs := ([(⟨0, 1, 0, 1, y285⟩ : S41)] : List (S41))) (inner := [.int .i64 0, .int .i64 1, .int .i64 0, .int .i64 1, .slice Ao16 y285.length co16]) (ok := (fun _ => True)) (okp := (fun _ => True)) ?hr ?hp (fun _ hk => hk) ((show ∀ k_, w14.heap.size ≤ k_ → (fun _ => True) k_ from fun k_ hk => trivial) _ (Nat.le_refl _)) (Below.refl _ _) (Nat.le_refl _) (by simp) ?_; (case hd => rfl); (case hg => rfl); (case hr => first | (go_simp; done) | (go_simp; rfl)); (case hp => exact (Reps.c5 (show Kd.FK k41 _ _ (⟨0, 1, 0, 1, y285⟩ : S41) [.int .i64 0, .int .i64 1, .int .i64 0, .int .i64 1, .slice Ao16 y285.length co16] from (k41_mkF _ _ (⟨0, 1, 0, 1, y285⟩ : S41) (Kd.R_reads' (Kd.R_mono (ok' := (fun _ => True)) (HO287.out) (fun k_ hk => trivial))).2.1 (Kd.R_F (Kd.R_mono (ok' := (fun _ => True)) (HO287.out) (fun k_ hk => trivial))))) (Reps.none _ _))); intro v289 w17 ho18 hb hg_ hnew_; clear hg_ hnew_; (first | rw [← Ny288.out] at ho18 | (simp only [Int.reduceToNat] at ho18; rw [← Ny288.out] at ho18)); have n0_ := Aside0.mk (Kd.N_lower ho18 (below_size (by repeat (first | (with_reducible first | exact HB.out | apply below_alloc | apply pw_below_drewN | apply below_drew1) | exact HB.out)))); have n1_ := Aside0.mk (below_step (by repeat (first | (with_reducible first | exact HB.out | apply below_alloc | apply pw_below_drewN | apply below_drew1) | exact HB.out)) hb); clear HB; clear HO287; have HO290 := n0_; have HB := n1_; clear n0_ n1_; clear hb ho18) | ((with_reducible refine gate_dst (N := 12) rfl ?_); (try (refine gate_guard (by rfl) ?_; dsimp only)); refine Kd.R_lit Kd.string _ 9 ?hg (N := 12) ?hd (xs := ([(⟨#[97]⟩ : ByteArray)] : List ByteArray)) (inner := [.string (⟨#[97]⟩ : ByteArray)]) (ok := fun _ => True) (okp := fun _ => True) ?hr ?hp (fun _ hk => hk) trivial (Below.refl _ _) (Nat.le_refl _) (by simp) ?_; (case hd => rfl); (case hg => rfl); (case hr => first | (go_simp; done) | (go_simp; rfl)); (case hp => exact (Reps.one (show Kd.M Kd.string _ _ _ (⟨#[97]⟩ : ByteArray) [.string (⟨#[97]⟩ : ByteArray)] from rfl) (Reps.none _ _))); intro v292 w19 ho20 hb hg_ hnew_; clear hg_ hnew_; (first | rw [← Ny291.out] at ho20 | (simp only [Int.reduceToNat] at ho20; rw [← Ny291.out] at ho20)); have n0_ := Aside0.mk (Kd.N_elder' (by (with_reducible repeat (first | apply Kd.N_alloc | apply Kd.N_drewN | apply Kd.N_drew)); exact HO290.out) (Kd.R_base ho20) hb); have n1_ := Aside0.mk (Kd.R_lower ho20 (below_size (by repeat (first | (with_reducible first | exact HB.out | apply below_alloc | apply pw_below_drewN | apply below_drew1) | exact HB.out)))); have n2_ := Aside0.mk (below_step (by repeat (first | (with_reducible first | exact HB.out | apply below_alloc | apply pw_below_drewN | apply below_drew1) | exact HB.out)) hb); clear HO290; clear HB; have HO290 := n0_; have HO293 := n1_; have HB := n2_; clear n0_ n1_ n2_; clear hb ho20; obtain ⟨Ao21, co21, eo21⟩ := Kd.R_slice HO293.out; subst eo21; obtain ⟨Ao22, co22, eo22⟩ := Kd.N_slice HO290.out; subst eo22) | ((with_reducible refine gate_callee (f := 12) rfl ?_); refine goesL_ (some 14) rfl rfl Try.func12 (by kernel_rfl) rfl #[.slice Ao21 y291.length co21, .slice Ao22 y288.length co22] rfl (by (try simp only [List.map_toArray, List.map_cons, List.map_nil]); first | done | rfl | (simp only [List.length_drop, List.length_take]; rfl)) ?_; (with_reducible refine (apply_Apply.calls _ _ y291 _ _ y288 t294 t295 _ ?side1 ?side2 ?side3 ?side4 A1.out).mono ?_); (case side1 => repeat (first | exact (Kd.R_reads' HO293.out).2.2 | (with_reducible refine Kd.C_alloc ?_ _) | (with_reducible refine Kd.C_drewN ?_ _) | (with_reducible refine Kd.C_drew ?_))); (case side2 => exact (Kd.R_reads' HO293.out).2.1); (case side3 => repeat (first | exact (Kd.N_reads' HO290.out).2.2 | (with_reducible refine Kd.C_alloc ?_ _) | (with_reducible refine Kd.C_drewN ?_ _) | (with_reducible refine Kd.C_drew ?_))); (case side4 => exact (Kd.N_reads' HO290.out).2.1); rintro e w23 ⟨v296, rfl, ho0, hb⟩; refine ⟨_, rfl, ?_⟩; have n0_ := Aside0.mk (Kd.N_elder' (by (with_reducible repeat (first | apply Kd.N_alloc | apply Kd.N_drewN | apply Kd.N_drew)); exact HO290.out) (Kd.R_base ho0) hb); have n1_ := Aside0.mk (Kd.R_elder' (by (with_reducible repeat (first | apply Kd.R_alloc | apply Kd.R_drewN | apply Kd.R_drew)); exact HO293.out) (Kd.R_base ho0) hb); have n2_ := Aside0.mk (Kd.R_lower (Kd.R_new' ho0 (Kd.R_lt (by (with_reducible repeat (first | apply Kd.R_alloc | apply Kd.R_drewN | apply Kd.R_drew)); exact HO293.out))) (below_size (by repeat (first | (with_reducible first | exact HB.out | apply below_alloc | apply pw_below_drewN | apply below_drew1) | exact HB.out)))); have n3_ := Aside0.mk (below_step (by repeat (first | (with_reducible first | exact HB.out | apply below_alloc | apply pw_below_drewN | apply below_drew1) | exact HB.out)) hb); clear HO290; clear HO293; clear HB; have HO290 := n0_; have HO293 := n1_; have HO297 := n2_; have HB := n3_; clear n0_ n1_ n2_ n3_; (try clear hb); (try clear hb2); (try clear hk); (try clear hi); (try clear ho0)) | ((with_reducible refine gate_dst (N := 18) rfl ?_); (try (refine gate_guard (by rfl) ?_; dsimp only)); refine Kd.R_lit Kd.string _ 9 ?hg (N := 18) ?hd (xs := ([(⟨#[99]⟩ : ByteArray)] : List ByteArray)) (inner := [.string (⟨#[99]⟩ : ByteArray)]) (ok := fun _ => True) (okp := fun _ => True) ?hr ?hp (fun _ hk => hk) trivial (Below.refl _ _) (Nat.le_refl _) (by simp) ?_; (case hd => rfl); (case hg => rfl); (case hr => first | (go_simp; done) | (go_simp; rfl)); (case hp => exact (Reps.one (show Kd.M Kd.string _ _ _ (⟨#[99]⟩ : ByteArray) [.string (⟨#[99]⟩ : ByteArray)] from rfl) (Reps.none _ _))); intro v299 w24 ho25 hb hg_ hnew_; clear hg_ hnew_; (first | rw [← Ny298.out] at ho25 | (simp only [Int.reduceToNat] at ho25; rw [← Ny298.out] at ho25)); have n0_ := Aside0.mk (Kd.N_elder' (by (with_reducible repeat (first | apply Kd.N_alloc | apply Kd.N_drewN | apply Kd.N_drew)); exact HO290.out) (Kd.R_base ho25) hb); have n1_ := Aside0.mk (Kd.R_elder' (by (with_reducible repeat (first | apply Kd.R_alloc | apply Kd.R_drewN | apply Kd.R_drew)); exact HO293.out) (Kd.R_base ho25) hb); have n2_ := Aside0.mk (Kd.R_elder' (by (with_reducible repeat (first | apply Kd.R_alloc | apply Kd.R_drewN | apply Kd.R_drew)); exact HO297.out) (Kd.R_base ho25) hb); have n3_ := Aside0.mk (Kd.R_lower (Kd.R_new' (Kd.R_new' ho25 (Kd.R_lt (by (with_reducible repeat (first | apply Kd.R_alloc | apply Kd.R_drewN | apply Kd.R_drew)); exact HO293.out))) (Kd.R_lt (by (with_reducible repeat (first | apply Kd.R_alloc | apply Kd.R_drewN | apply Kd.R_drew)); exact HO297.out))) (below_size (by repeat (first | (with_reducible first | exact HB.out | apply below_alloc | apply pw_below_drewN | apply below_drew1) | exact HB.out)))); have n4_ := Aside0.mk (below_step (by repeat (first | (with_reducible first | exact HB.out | apply below_alloc | apply pw_below_drewN | apply below_drew1) | exact HB.out)) hb); clear HO290; clear HO293; clear HO297; clear HB; have HO290 := n0_; have HO293 := n1_; have HO297 := n2_; have HO300 := n3_; have HB := n4_; clear n0_ n1_ n2_ n3_ n4_; clear hb ho25; obtain ⟨Ao26, co26, eo26⟩ := Kd.R_slice HO300.out; subst eo26) | ((with_reducible refine gate_callee (f := 12) rfl ?_); refine goesL_ (some 20) rfl rfl Try.func12 (by kernel_rfl) rfl #[.slice Ao26 y298.length co26, .slice Ao22 y288.length co22] rfl (by (try simp only [List.map_toArray, List.map_cons, List.map_nil]); first | done | rfl | (simp only [List.length_drop, List.length_take]; rfl)) ?_; (with_reducible refine (apply_Apply.calls _ _ y298 _ _ y288 t301 t302 _ ?side1 ?side2 ?side3 ?side4 A2.out).mono ?_); (case side1 => repeat (first | exact (Kd.R_reads' HO300.out).2.2 | (with_reducible refine Kd.C_alloc ?_ _) | (with_reducible refine Kd.C_drewN ?_ _) | (with_reducible refine Kd.C_drew ?_))); (case side2 => exact (Kd.R_reads' HO300.out).2.1); (case side3 => repeat (first | exact (Kd.N_reads' HO290.out).2.2 | (with_reducible refine Kd.C_alloc ?_ _) | (with_reducible refine Kd.C_drewN ?_ _) | (with_reducible refine Kd.C_drew ?_))); (case side4 => exact (Kd.N_reads' HO290.out).2.1); rintro e w27 ⟨v303, rfl, ho0, hb⟩; refine ⟨_, rfl, ?_⟩; have n0_ := Aside0.mk (Kd.N_elder' (by (with_reducible repeat (first | apply Kd.N_alloc | apply Kd.N_drewN | apply Kd.N_drew)); exact HO290.out) (Kd.R_base ho0) hb); have n1_ := Aside0.mk (Kd.R_elder' (by (with_reducible repeat (first | apply Kd.R_alloc | apply Kd.R_drewN | apply Kd.R_drew)); exact HO293.out) (Kd.R_base ho0) hb); have n2_ := Aside0.mk (Kd.R_elder' (by (with_reducible repeat (first | apply Kd.R_alloc | apply Kd.R_drewN | apply Kd.R_drew)); exact HO297.out) (Kd.R_base ho0) hb); have n3_ := Aside0.mk (Kd.R_elder' (by (with_reducible repeat (first | apply Kd.R_alloc | apply Kd.R_drewN | apply Kd.R_drew)); exact HO300.out) (Kd.R_base ho0) hb); have n4_ := Aside0.mk (Kd.R_lower (Kd.R_new' (Kd.R_new' (Kd.R_new' ho0 (Kd.R_lt (by (with_reducible repeat (first | apply Kd.R_alloc | apply Kd.R_drewN | apply Kd.R_drew)); exact HO293.out))) (Kd.R_lt (by (with_reducible repeat (first | apply Kd.R_alloc | apply Kd.R_drewN | apply Kd.R_drew)); exact HO297.out))) (Kd.R_lt (by (with_reducible repeat (first | apply Kd.R_alloc | apply Kd.R_drewN | apply Kd.R_drew)); exact HO300.out))) (below_size (by repeat (first | (with_reducible first | exact HB.out | apply below_alloc | apply pw_below_drewN | apply below_drew1) | exact HB.out)))); have n5_ := Aside0.mk (below_step (by repeat (first | (with_reducible first | exact HB.out | apply below_alloc | apply pw_below_drewN | apply below_drew1) | exact HB.out)) hb); clear HO290; clear HO293; clear HO297; clear HO300; clear HB; have HO290 := n0_; have HO293 := n1_; have HO297 := n2_; have HO300 := n3_; have HO304 := n4_; have HB := n5_; clear n0_ n1_ n2_ n3_ n4_ n5_; (try clear hb); (try clear hb2); (try clear hk); (try clear hi); (try clear ho0)) | ((with_reducible refine gate_dst (N := 24) rfl ?_); (try (refine gate_guard (by rfl) ?_; dsimp only)); refine Kd.R_lit Kd.string _ 9 ?hg (N := 24) ?hd (xs := ([(⟨#[97]⟩ : ByteArray)] : List ByteArray)) (inner := [.string (⟨#[97]⟩ : ByteArray)]) (ok := fun _ => True) (okp := fun _ => True) ?hr ?hp (fun _ hk => hk) trivial (Below.refl _ _) (Nat.le_refl _) (by simp) ?_; (case hd => rfl); (case hg => rfl); (case hr => first | (go_simp; done) | (go_simp; rfl)); (case hp => exact (Reps.one (show Kd.M Kd.string _ _ _ (⟨#[97]⟩ : ByteArray) [.string (⟨#[97]⟩ : ByteArray)] from rfl) (Reps.none _ _))); intro v306 w28 ho29 hb hg_ hnew_; clear hg_ hnew_; (first | rw [← Ny305.out] at ho29 | (simp only [Int.reduceToNat] at ho29; rw [← Ny305.out] at ho29)); have n0_ := Aside0.mk (Kd.N_elder' (by (with_reducible repeat (first | apply Kd.N_alloc | apply Kd.N_drewN | apply Kd.N_drew)); exact HO290.out) (Kd.R_base ho29) hb); have n1_ := Aside0.mk (Kd.R_elder' (by (with_reducible repeat (first | apply Kd.R_alloc | apply Kd.R_drewN | apply Kd.R_drew)); exact HO293.out) (Kd.R_base ho29) hb); have n2_ := Aside0.mk (Kd.R_elder' (by (with_reducible repeat (first | apply Kd.R_alloc | apply Kd.R_drewN | apply Kd.R_drew)); exact HO297.out) (Kd.R_base ho29) hb); have n3_ := Aside0.mk (Kd.R_elder' (by (with_reducible repeat (first | apply Kd.R_alloc | apply Kd.R_drewN | apply Kd.R_drew)); exact HO300.out) (Kd.R_base ho29) hb); have n4_ := Aside0.mk (Kd.R_elder' (by (with_reducible repeat (first | apply Kd.R_alloc | apply Kd.R_drewN | apply Kd.R_drew)); exact HO304.out) (Kd.R_base ho29) hb); have n5_ := Aside0.mk (Kd.R_lower (Kd.R_new' (Kd.R_new' (Kd.R_new' (Kd.R_new' ho29 (Kd.R_lt (by (with_reducible repeat (first | apply Kd.R_alloc | apply Kd.R_drewN | apply Kd.R_drew)); exact HO293.out))) (Kd.R_lt (by (with_reducible repeat (first | apply Kd.R_alloc | apply Kd.R_drewN | apply Kd.R_drew)); exact HO297.out))) (Kd.R_lt (by (with_reducible repeat (first | apply Kd.R_alloc | apply Kd.R_drewN | apply Kd.R_drew)); exact HO300.out))) (Kd.R_lt (by (with_reducible repeat (first | apply Kd.R_alloc | apply Kd.R_drewN | apply Kd.R_drew)); exact HO304.out))) (below_size (by repeat (first | (with_reducible first | exact HB.out | apply below_alloc | apply pw_below_drewN | apply below_drew1) | exact HB.out)))); have n6_ := Aside0.mk (below_step (by repeat (first | (with_reducible first | exact HB.out | apply below_alloc | apply pw_below_drewN | apply below_drew1) | exact HB.out)) hb); clear HO290; clear HO293; clear HO297; clear HO300; clear HO304; clear HB; have HO290 := n0_; have HO293 := n1_; have HO297 := n2_; have HO300 := n3_; have HO304 := n4_; have HO307 := n5_; have HB := n6_; clear n0_ n1_ n2_ n3_ n4_ n5_ n6_; clear hb ho29) | ((with_reducible refine gate_dst (N := 25) rfl ?_); (try (refine gate_guard (by rfl) ?_; dsimp only)); refine Kd.R_lit Kd.string _ 9 ?hg (N := 25) ?hd (xs := ([(⟨#[98]⟩ : ByteArray)] : List ByteArray)) (inner := [.string (⟨#[98]⟩ : ByteArray)]) (ok := fun _ => True) (okp := fun _ => True) ?hr ?hp (fun _ hk => hk) trivial (Below.refl _ _) (Nat.le_refl _) (by simp) ?_; (case hd => rfl); (case hg => rfl); (case hr => first | (go_simp; done) | (go_simp; rfl)); (case hp => exact (Reps.one (show Kd.M Kd.string _ _ _ (⟨#[98]⟩ : ByteArray) [.string (⟨#[98]⟩ : ByteArray)] from rfl) (Reps.none _ _))); intro v309 w30 ho31 hb hg_ hnew_; clear hg_ hnew_; (first | rw [← Ny308.out] at ho31 | (simp only [Int.reduceToNat] at ho31; rw [← Ny308.out] at ho31)); have n0_ := Aside0.mk (Kd.N_elder' (by (with_reducible repeat (first | apply Kd.N_alloc | apply Kd.N_drewN | apply Kd.N_drew)); exact HO290.out) (Kd.R_base ho31) hb); have n1_ := Aside0.mk (Kd.R_elder' (by (with_reducible repeat (first | apply Kd.R_alloc | apply Kd.R_drewN | apply Kd.R_drew)); exact HO293.out) (Kd.R_base ho31) hb); have n2_ := Aside0.mk (Kd.R_elder' (by (with_reducible repeat (first | apply Kd.R_alloc | apply Kd.R_drewN | apply Kd.R_drew)); exact HO297.out) (Kd.R_base ho31) hb); have n3_ := Aside0.mk (Kd.R_elder' (by (with_reducible repeat (first | apply Kd.R_alloc | apply Kd.R_drewN | apply Kd.R_drew)); exact HO300.out) (Kd.R_base ho31) hb); have n4_ := Aside0.mk (Kd.R_elder' (by (with_reducible repeat (first | apply Kd.R_alloc | apply Kd.R_drewN | apply Kd.R_drew)); exact HO304.out) (Kd.R_base ho31) hb); have n5_ := Aside0.mk (Kd.R_elder' (by (with_reducible repeat (first | apply Kd.R_alloc | apply Kd.R_drewN | apply Kd.R_drew)); exact HO307.out) (Kd.R_base ho31) hb); have n6_ := Aside0.mk (Kd.R_lower (Kd.R_new' (Kd.R_new' (Kd.R_new' (Kd.R_new' (Kd.R_new' ho31 (Kd.R_lt (by (with_reducible repeat (first | apply Kd.R_alloc | apply Kd.R_drewN | apply Kd.R_drew)); exact HO293.out))) (Kd.R_lt (by (with_reducible repeat (first | apply Kd.R_alloc | apply Kd.R_drewN | apply Kd.R_drew)); exact HO297.out))) (Kd.R_lt (by (with_reducible repeat (first | apply Kd.R_alloc | apply Kd.R_drewN | apply Kd.R_drew)); exact HO300.out))) (Kd.R_lt (by (with_reducible repeat (first | apply Kd.R_alloc | apply Kd.R_drewN | apply Kd.R_drew)); exact HO304.out))) (Kd.R_lt (by (with_reducible repeat (first | apply Kd.R_alloc | apply Kd.R_drewN | apply Kd.R_drew)); exact HO307.out))) (below_size (by repeat (first | (with_reducible first | exact HB.out | apply below_alloc | apply pw_below_drewN | apply below_drew1) | exact HB.out)))); have n7_ := Aside0.mk (below_step (by repeat (first | (with_reducible first | exact HB.out | apply below_alloc | apply pw_below_drewN | apply below_drew1) | exact HB.out)) hb); clear HO290; clear HO293; clear HO297; clear HO300; clear HO304; clear HO307; clear HB; have HO290 := n0_; have HO293 := n1_; have HO297 := n2_; have HO300 := n3_; have HO304 := n4_; have HO307 := n5_; have HO310 := n6_; have HB := n7_; clear n0_ n1_ n2_ n3_ n4_ n5_ n6_ n7_; clear hb ho31; obtain ⟨Ao32, co32, eo32⟩ := Kd.R_slice HO307.out; subst eo32; obtain ⟨Ao33, co33, eo33⟩ := Kd.R_slice HO310.out; subst eo33) | ((with_reducible refine gate_callee (f := 20) rfl ?_); refine goesL_ (some 26) rfl rfl Try.func20 (by kernel_rfl) rfl #[.slice Ao32 y305.length co32, .slice Ao33 y308.length co33, .int .i64 0] rfl (by (try simp only [List.map_toArray, List.map_cons, List.map_nil]); first | done | rfl | (simp only [List.length_drop, List.length_take]; rfl)) ?_; (with_reducible refine (apply_Between.calls k _ _ y305 _ _ y308 0 t311 t312 _ ?side1 ?side2 ?side3 ?side4 A3.out).mono ?_); (case side1 => repeat (first | exact (Kd.R_reads' HO307.out).2.2 | (with_reducible refine Kd.C_alloc ?_ _) | (with_reducible refine Kd.C_drewN ?_ _) | (with_reducible refine Kd.C_drew ?_))); (case side2 => exact (Kd.R_reads' HO307.out).2.1); (case side3 => repeat (first | exact (Kd.R_reads' HO310.out).2.2 | (with_reducible refine Kd.C_alloc ?_ _) | (with_reducible refine Kd.C_drewN ?_ _) | (with_reducible refine Kd.C_drew ?_))); (case side4 => exact (Kd.R_reads' HO310.out).2.1); rintro e w34 ⟨v313, rfl, ho0, hb⟩; refine ⟨_, rfl, ?_⟩; have n0_ := Aside0.mk (Kd.N_elder' (by (with_reducible repeat (first | apply Kd.N_alloc | apply Kd.N_drewN | apply Kd.N_drew)); exact HO290.out) (by first | exact Kd.N_base ho0 | exact Kd.S_base ho0) hb); have n1_ := Aside0.mk (Kd.R_below (by (with_reducible repeat (first | apply Kd.R_alloc | apply Kd.R_drewN | apply Kd.R_drew)); exact HO293.out) hb); have n2_ := Aside0.mk (Kd.R_below (by (with_reducible repeat (first | apply Kd.R_alloc | apply Kd.R_drewN | apply Kd.R_drew)); exact HO297.out) hb); have n3_ := Aside0.mk (Kd.R_below (by (with_reducible repeat (first | apply Kd.R_alloc | apply Kd.R_drewN | apply Kd.R_drew)); exact HO300.out) hb); have n4_ := Aside0.mk (Kd.R_below (by (with_reducible repeat (first | apply Kd.R_alloc | apply Kd.R_drewN | apply Kd.R_drew)); exact HO304.out) hb); have n5_ := Aside0.mk (Kd.R_below (by (with_reducible repeat (first | apply Kd.R_alloc | apply Kd.R_drewN | apply Kd.R_drew)); exact HO307.out) hb); have n6_ := Aside0.mk (Kd.R_below (by (with_reducible repeat (first | apply Kd.R_alloc | apply Kd.R_drewN | apply Kd.R_drew)); exact HO310.out) hb); have n7_ := Aside0.mk (Kd.N_lower (Kd.N_mono (ok' := fun k_ => some k_ ≠ (.slice Ao22 y288.length co22 : Value).ownBlock ∧ some k_ ≠ (.slice Ao21 y291.length co21 : Value).ownBlock ∧ some k_ ≠ (v296 : Value).ownBlock ∧ some k_ ≠ (.slice Ao26 y298.length co26 : Value).ownBlock ∧ some k_ ≠ (v303 : Value).ownBlock ∧ some k_ ≠ (.slice Ao32 y305.length co32 : Value).ownBlock ∧ some k_ ≠ (.slice Ao33 y308.length co33 : Value).ownBlock) (Kd.S_N (Kd.S_bound ho0)) (fun k_ hk_ => ⟨(Kd.fresh' (Kd.N_lt (by (with_reducible repeat (first | apply Kd.N_alloc | apply Kd.N_drewN | apply Kd.N_drew)); exact HO290.out)) k_ hk_.2.1), (Kd.fresh' (Kd.R_lt (by (with_reducible repeat (first | apply Kd.R_alloc | apply Kd.R_drewN | apply Kd.R_drew)); exact HO293.out)) k_ hk_.2.1), (Kd.fresh' (Kd.R_lt (by (with_reducible repeat (first | apply Kd.R_alloc | apply Kd.R_drewN | apply Kd.R_drew)); exact HO297.out)) k_ hk_.2.1), (Kd.fresh' (Kd.R_lt (by (with_reducible repeat (first | apply Kd.R_alloc | apply Kd.R_drewN | apply Kd.R_drew)); exact HO300.out)) k_ hk_.2.1), (Kd.fresh' (Kd.R_lt (by (with_reducible repeat (first | apply Kd.R_alloc | apply Kd.R_drewN | apply Kd.R_drew)); exact HO304.out)) k_ hk_.2.1), (Kd.fresh' (Kd.R_lt (by (with_reducible repeat (first | apply Kd.R_alloc | apply Kd.R_drewN | apply Kd.R_drew)); exact HO307.out)) k_ hk_.2.1), (Kd.fresh' (Kd.R_lt (by (with_reducible repeat (first | apply Kd.R_alloc | apply Kd.R_drewN | apply Kd.R_drew)); exact HO310.out)) k_ hk_.2.1)⟩)) (below_size (by repeat (first | (with_reducible first | exact HB.out | apply below_alloc | apply pw_below_drewN | apply below_drew1) | exact HB.out)))); have n8_ := Aside0.mk (below_step (by repeat (first | (with_reducible first | exact HB.out | apply below_alloc | apply pw_below_drewN | apply below_drew1) | exact HB.out)) hb); clear HO290; clear HO293; clear HO297; clear HO300; clear HO304; clear HO307; clear HO310; clear HB; have HO290 := n0_; have HO293 := n1_; have HO297 := n2_; have HO300 := n3_; have HO304 := n4_; have HO307 := n5_; have HO310 := n6_; have HO314 := n7_; have HB := n8_; clear n0_ n1_ n2_ n3_ n4_ n5_ n6_ n7_ n8_; (try clear hb); (try clear hb2); (try clear hk); (try clear hi); (try clear ho0)) | ((with_reducible refine gate_dst (N := 33) rfl ?_); (try (refine gate_guard (by rfl) ?_; dsimp only)); refine Kd.R_lit Kd.string _ 9 ?hg (N := 33) ?hd (xs := ([(⟨#[98]⟩ : ByteArray)] : List ByteArray)) (inner := [.string (⟨#[98]⟩ : ByteArray)]) (ok := fun _ => True) (okp := fun _ => True) ?hr ?hp (fun _ hk => hk) trivial (Below.refl _ _) (Nat.le_refl _) (by simp) ?_; (case hd => rfl); (case hg => rfl); (case hr => first | (go_simp; done) | (go_simp; rfl)); (case hp => exact (Reps.one (show Kd.M Kd.string _ _ _ (⟨#[98]⟩ : ByteArray) [.string (⟨#[98]⟩ : ByteArray)] from rfl) (Reps.none _ _))); intro v316 w35 ho36 hb hg_ hnew_; clear hg_ hnew_; (first | rw [← Ny315.out] at ho36 | (simp only [Int.reduceToNat] at ho36; rw [← Ny315.out] at ho36)); have n0_ := Aside0.mk (Kd.N_elder' (by (with_reducible repeat (first | apply Kd.N_alloc | apply Kd.N_drewN | apply Kd.N_drew)); exact HO290.out) (Kd.R_base ho36) hb); have n1_ := Aside0.mk (Kd.R_elder' (by (with_reducible repeat (first | apply Kd.R_alloc | apply Kd.R_drewN | apply Kd.R_drew)); exact HO293.out) (Kd.R_base ho36) hb); have n2_ := Aside0.mk (Kd.R_elder' (by (with_reducible repeat (first | apply Kd.R_alloc | apply Kd.R_drewN | apply Kd.R_drew)); exact HO297.out) (Kd.R_base ho36) hb); have n3_ := Aside0.mk (Kd.R_elder' (by (with_reducible repeat (first | apply Kd.R_alloc | apply Kd.R_drewN | apply Kd.R_drew)); exact HO300.out) (Kd.R_base ho36) hb); have n4_ := Aside0.mk (Kd.R_elder' (by (with_reducible repeat (first | apply Kd.R_alloc | apply Kd.R_drewN | apply Kd.R_drew)); exact HO304.out) (Kd.R_base ho36) hb); have n5_ := Aside0.mk (Kd.R_elder' (by (with_reducible repeat (first | apply Kd.R_alloc | apply Kd.R_drewN | apply Kd.R_drew)); exact HO307.out) (Kd.R_base ho36) hb); have n6_ := Aside0.mk (Kd.R_elder' (by (with_reducible repeat (first | apply Kd.R_alloc | apply Kd.R_drewN | apply Kd.R_drew)); exact HO310.out) (Kd.R_base ho36) hb); have n7_ := Aside0.mk (Kd.N_elder' (by (with_reducible repeat (first | apply Kd.N_alloc | apply Kd.N_drewN | apply Kd.N_drew)); exact HO314.out) (Kd.R_base ho36) hb); have n8_ := Aside0.mk (Kd.R_lower (Kd.R_new' (Kd.R_new' (Kd.R_new' (Kd.R_new' (Kd.R_new' (Kd.R_new' ho36 (Kd.R_lt (by (with_reducible repeat (first | apply Kd.R_alloc | apply Kd.R_drewN | apply Kd.R_drew)); exact HO293.out))) (Kd.R_lt (by (with_reducible repeat (first | apply Kd.R_alloc | apply Kd.R_drewN | apply Kd.R_drew)); exact HO297.out))) (Kd.R_lt (by (with_reducible repeat (first | apply Kd.R_alloc | apply Kd.R_drewN | apply Kd.R_drew)); exact HO300.out))) (Kd.R_lt (by (with_reducible repeat (first | apply Kd.R_alloc | apply Kd.R_drewN | apply Kd.R_drew)); exact HO304.out))) (Kd.R_lt (by (with_reducible repeat (first | apply Kd.R_alloc | apply Kd.R_drewN | apply Kd.R_drew)); exact HO307.out))) (Kd.R_lt (by (with_reducible repeat (first | apply Kd.R_alloc | apply Kd.R_drewN | apply Kd.R_drew)); exact HO310.out))) (below_size (by repeat (first | (with_reducible first | exact HB.out | apply below_alloc | apply pw_below_drewN | apply below_drew1) | exact HB.out)))); have n9_ := Aside0.mk (below_step (by repeat (first | (with_reducible first | exact HB.out | apply below_alloc | apply pw_below_drewN | apply below_drew1) | exact HB.out)) hb); clear HO290; clear HO293; clear HO297; clear HO300; clear HO304; clear HO307; clear HO310; clear HO314; clear HB; have HO290 := n0_; have HO293 := n1_; have HO297 := n2_; have HO300 := n3_; have HO304 := n4_; have HO307 := n5_; have HO310 := n6_; have HO314 := n7_; have HO317 := n8_; have HB := n9_; clear n0_ n1_ n2_ n3_ n4_ n5_ n6_ n7_ n8_ n9_; clear hb ho36; obtain ⟨Ao37, co37, eo37⟩ := Kd.R_slice HO297.out; subst eo37; obtain ⟨Ao38, co38, eo38⟩ := Kd.R_slice HO317.out; subst eo38) | (go_at_call 14; (with_reducible refine (grapevineref01_Texts.calls k _ _ t294 _ _ y315 true _ ?side1 ?side2 ?side3 ?side4 A5.out).mono ?_); (case side1 => repeat (first | exact (Kd.R_reads' HO297.out).2.2 | (with_reducible refine Kd.C_alloc ?_ _) | (with_reducible refine Kd.C_drewN ?_ _) | (with_reducible refine Kd.C_drew ?_))); (case side2 => exact (Kd.R_reads' HO297.out).2.1); (case side3 => repeat (first | exact (Kd.R_reads' HO317.out).2.2 | (with_reducible refine Kd.C_alloc ?_ _) | (with_reducible refine Kd.C_drewN ?_ _) | (with_reducible refine Kd.C_drew ?_))); (case side4 => exact (Kd.R_reads' HO317.out).2.1); rintro e w' ⟨rfl, ⟨nd, rfl⟩⟩; obtain ⟨Ao39, co39, eo39⟩ := Kd.N_slice HO314.out; subst eo39) | (go_at_call 17; (with_reducible refine (grapevineref05_Same.calls k _ _ t311 _ _ y288 true _ ?side1 ?side2 ?side3 ?side4 A9.out).mono ?_); (case side1 => repeat (first | exact (Kd.N_reads' HO314.out).2.2 | (with_reducible refine Kd.C_alloc ?_ _) | (with_reducible refine Kd.C_drewN ?_ _) | (with_reducible refine Kd.C_drew ?_))); (case side2 => exact (Kd.N_reads' HO314.out).2.1); (case side3 => repeat (first | exact (Kd.N_reads' HO290.out).2.2 | (with_reducible refine Kd.C_alloc ?_ _) | (with_reducible refine Kd.C_drewN ?_ _) | (with_reducible refine Kd.C_drew ?_))); (case side4 => exact (Kd.N_reads' HO290.out).2.1); rintro e w40 ⟨rfl, hb⟩; have n0_ := Aside0.mk (Kd.N_below (by (with_reducible repeat (first | apply Kd.N_alloc | apply Kd.N_drewN | apply Kd.N_drew)); exact HO290.out) hb); have n1_ := Aside0.mk (Kd.R_below (by (with_reducible repeat (first | apply Kd.R_alloc | apply Kd.R_drewN | apply Kd.R_drew)); exact HO293.out) hb); have n2_ := Aside0.mk (Kd.R_below (by (with_reducible repeat (first | apply Kd.R_alloc | apply Kd.R_drewN | apply Kd.R_drew)); exact HO297.out) hb); have n3_ := Aside0.mk (Kd.R_below (by (with_reducible repeat (first | apply Kd.R_alloc | apply Kd.R_drewN | apply Kd.R_drew)); exact HO300.out) hb); have n4_ := Aside0.mk (Kd.R_below (by (with_reducible repeat (first | apply Kd.R_alloc | apply Kd.R_drewN | apply Kd.R_drew)); exact HO304.out) hb); have n5_ := Aside0.mk (Kd.R_below (by (with_reducible repeat (first | apply Kd.R_alloc | apply Kd.R_drewN | apply Kd.R_drew)); exact HO307.out) hb); have n6_ := Aside0.mk (Kd.R_below (by (with_reducible repeat (first | apply Kd.R_alloc | apply Kd.R_drewN | apply Kd.R_drew)); exact HO310.out) hb); have n7_ := Aside0.mk (Kd.N_below (by (with_reducible repeat (first | apply Kd.N_alloc | apply Kd.N_drewN | apply Kd.N_drew)); exact HO314.out) hb); have n8_ := Aside0.mk (Kd.R_below (by (with_reducible repeat (first | apply Kd.R_alloc | apply Kd.R_drewN | apply Kd.R_drew)); exact HO317.out) hb); have n9_ := Aside0.mk (below_step (by repeat (first | (with_reducible first | exact HB.out | apply below_alloc | apply pw_below_drewN | apply below_drew1) | exact HB.out)) hb); clear HO290; clear HO293; clear HO297; clear HO300; clear HO304; clear HO307; clear HO310; clear HO314; clear HO317; clear HB; have HO290 := n0_; have HO293 := n1_; have HO297 := n2_; have HO300 := n3_; have HO304 := n4_; have HO307 := n5_; have HO310 := n6_; have HO314 := n7_; have HO317 := n8_; have HB := n9_; clear n0_ n1_ n2_ n3_ n4_ n5_ n6_ n7_ n8_ n9_; (try clear hb); (try clear hb2); (try clear hk); (try clear hi)) | (go_at_call 15; (with_reducible refine (apply_Right.calls k _ _ y288 true _ ?side1 ?side2 A11.out).mono ?_); (case side1 => repeat (first | exact (Kd.N_reads' HO290.out).2.2 | (with_reducible refine Kd.C_alloc ?_ _) | (with_reducible refine Kd.C_drewN ?_ _) | (with_reducible refine Kd.C_drew ?_))); (case side2 => exact (Kd.N_reads' HO290.out).2.1); rintro e w41 ⟨rfl, hb⟩; have n0_ := Aside0.mk (Kd.N_below (by (with_reducible repeat (first | apply Kd.N_alloc | apply Kd.N_drewN | apply Kd.N_drew)); exact HO290.out) hb); have n1_ := Aside0.mk (Kd.R_below (by (with_reducible repeat (first | apply Kd.R_alloc | apply Kd.R_drewN | apply Kd.R_drew)); exact HO293.out) hb); have n2_ := Aside0.mk (Kd.R_below (by (with_reducible repeat (first | apply Kd.R_alloc | apply Kd.R_drewN | apply Kd.R_drew)); exact HO297.out) hb); have n3_ := Aside0.mk (Kd.R_below (by (with_reducible repeat (first | apply Kd.R_alloc | apply Kd.R_drewN | apply Kd.R_drew)); exact HO300.out) hb); have n4_ := Aside0.mk (Kd.R_below (by (with_reducible repeat (first | apply Kd.R_alloc | apply Kd.R_drewN | apply Kd.R_drew)); exact HO304.out) hb); have n5_ := Aside0.mk (Kd.R_below (by (with_reducible repeat (first | apply Kd.R_alloc | apply Kd.R_drewN | apply Kd.R_drew)); exact HO307.out) hb); have n6_ := Aside0.mk (Kd.R_below (by (with_reducible repeat (first | apply Kd.R_alloc | apply Kd.R_drewN | apply Kd.R_drew)); exact HO310.out) hb); have n7_ := Aside0.mk (Kd.N_below (by (with_reducible repeat (first | apply Kd.N_alloc | apply Kd.N_drewN | apply Kd.N_drew)); exact HO314.out) hb); have n8_ := Aside0.mk (Kd.R_below (by (with_reducible repeat (first | apply Kd.R_alloc | apply Kd.R_drewN | apply Kd.R_drew)); exact HO317.out) hb); have n9_ := Aside0.mk (below_step (by repeat (first | (with_reducible first | exact HB.out | apply below_alloc | apply pw_below_drewN | apply below_drew1) | exact HB.out)) hb); clear HO290; clear HO293; clear HO297; clear HO300; clear HO304; clear HO307; clear HO310; clear HO314; clear HO317; clear HB; have HO290 := n0_; have HO293 := n1_; have HO297 := n2_; have HO300 := n3_; have HO304 := n4_; have HO307 := n5_; have HO310 := n6_; have HO314 := n7_; have HO317 := n8_; have HB := n9_; clear n0_ n1_ n2_ n3_ n4_ n5_ n6_ n7_ n8_ n9_; (try clear hb); (try clear hb2); (try clear hk); (try clear hi)) | (go_at_call 18; (with_reducible refine (apply_Turn.calls k _ _ y288 t321 _ ?side1 ?side2 A13.out).mono ?_); (case side1 => repeat (first | exact (Kd.N_reads' HO290.out).2.2 | (with_reducible refine Kd.C_alloc ?_ _) | (with_reducible refine Kd.C_drewN ?_ _) | (with_reducible refine Kd.C_drew ?_))); (case side2 => exact (Kd.N_reads' HO290.out).2.1); rintro e w42 ⟨v322, rfl, ho0, hb⟩; have n0_ := Aside0.mk (Kd.N_elder' (by (with_reducible repeat (first | apply Kd.N_alloc | apply Kd.N_drewN | apply Kd.N_drew)); exact HO290.out) (by first | exact Kd.N_base ho0 | exact Kd.S_base ho0) hb); have n1_ := Aside0.mk (Kd.R_below (by (with_reducible repeat (first | apply Kd.R_alloc | apply Kd.R_drewN | apply Kd.R_drew)); exact HO293.out) hb); have n2_ := Aside0.mk (Kd.R_below (by (with_reducible repeat (first | apply Kd.R_alloc | apply Kd.R_drewN | apply Kd.R_drew)); exact HO297.out) hb); have n3_ := Aside0.mk (Kd.R_below (by (with_reducible repeat (first | apply Kd.R_alloc | apply Kd.R_drewN | apply Kd.R_drew)); exact HO300.out) hb); have n4_ := Aside0.mk (Kd.R_below (by (with_reducible repeat (first | apply Kd.R_alloc | apply Kd.R_drewN | apply Kd.R_drew)); exact HO304.out) hb); have n5_ := Aside0.mk (Kd.R_below (by (with_reducible repeat (first | apply Kd.R_alloc | apply Kd.R_drewN | apply Kd.R_drew)); exact HO307.out) hb); have n6_ := Aside0.mk (Kd.R_below (by (with_reducible repeat (first | apply Kd.R_alloc | apply Kd.R_drewN | apply Kd.R_drew)); exact HO310.out) hb); have n7_ := Aside0.mk (Kd.N_elder' (by (with_reducible repeat (first | apply Kd.N_alloc | apply Kd.N_drewN | apply Kd.N_drew)); exact HO314.out) (by first | exact Kd.N_base ho0 | exact Kd.S_base ho0) hb); have n8_ := Aside0.mk (Kd.R_below (by (with_reducible repeat (first | apply Kd.R_alloc | apply Kd.R_drewN | apply Kd.R_drew)); exact HO317.out) hb); have n9_ := Aside0.mk (Kd.N_lower (Kd.N_mono (ok' := fun k_ => some k_ ≠ (.slice Ao22 y288.length co22 : Value).ownBlock ∧ some k_ ≠ (.slice Ao21 y291.length co21 : Value).ownBlock ∧ some k_ ≠ (.slice Ao37 t294.length co37 : Value).ownBlock ∧ some k_ ≠ (.slice Ao26 y298.length co26 : Value).ownBlock ∧ some k_ ≠ (v303 : Value).ownBlock ∧ some k_ ≠ (.slice Ao32 y305.length co32 : Value).ownBlock ∧ some k_ ≠ (.slice Ao33 y308.length co33 : Value).ownBlock ∧ some k_ ≠ (.slice Ao39 t311.length co39 : Value).ownBlock ∧ some k_ ≠ (.slice Ao38 y315.length co38 : Value).ownBlock) (Kd.S_N (Kd.S_bound ho0)) (fun k_ hk_ => ⟨(Kd.fresh' (Kd.N_lt (by (with_reducible repeat (first | apply Kd.N_alloc | apply Kd.N_drewN | apply Kd.N_drew)); exact HO290.out)) k_ hk_.2.1), (Kd.fresh' (Kd.R_lt (by (with_reducible repeat (first | apply Kd.R_alloc | apply Kd.R_drewN | apply Kd.R_drew)); exact HO293.out)) k_ hk_.2.1), (Kd.fresh' (Kd.R_lt (by (with_reducible repeat (first | apply Kd.R_alloc | apply Kd.R_drewN | apply Kd.R_drew)); exact HO297.out)) k_ hk_.2.1), (Kd.fresh' (Kd.R_lt (by (with_reducible repeat (first | apply Kd.R_alloc | apply Kd.R_drewN | apply Kd.R_drew)); exact HO300.out)) k_ hk_.2.1), (Kd.fresh' (Kd.R_lt (by (with_reducible repeat (first | apply Kd.R_alloc | apply Kd.R_drewN | apply Kd.R_drew)); exact HO304.out)) k_ hk_.2.1), (Kd.fresh' (Kd.R_lt (by (with_reducible repeat (first | apply Kd.R_alloc | apply Kd.R_drewN | apply Kd.R_drew)); exact HO307.out)) k_ hk_.2.1), (Kd.fresh' (Kd.R_lt (by (with_reducible repeat (first | apply Kd.R_alloc | apply Kd.R_drewN | apply Kd.R_drew)); exact HO310.out)) k_ hk_.2.1), (Kd.fresh' (Kd.N_lt (by (with_reducible repeat (first | apply Kd.N_alloc | apply Kd.N_drewN | apply Kd.N_drew)); exact HO314.out)) k_ hk_.2.1), (Kd.fresh' (Kd.R_lt (by (with_reducible repeat (first | apply Kd.R_alloc | apply Kd.R_drewN | apply Kd.R_drew)); exact HO317.out)) k_ hk_.2.1)⟩)) (below_size (by repeat (first | (with_reducible first | exact HB.out | apply below_alloc | apply pw_below_drewN | apply below_drew1) | exact HB.out)))); have n10_ := Aside0.mk (below_step (by repeat (first | (with_reducible first | exact HB.out | apply below_alloc | apply pw_below_drewN | apply below_drew1) | exact HB.out)) hb); clear HO290; clear HO293; clear HO297; clear HO300; clear HO304; clear HO307; clear HO310; clear HO314; clear HO317; clear HB; have HO290 := n0_; have HO293 := n1_; have HO297 := n2_; have HO300 := n3_; have HO304 := n4_; have HO307 := n5_; have HO310 := n6_; have HO314 := n7_; have HO317 := n8_; have HO323 := n9_; have HB := n10_; clear n0_ n1_ n2_ n3_ n4_ n5_ n6_ n7_ n8_ n9_ n10_; (try clear hb); (try clear hb2); (try clear hk); (try clear hi); (try clear ho0); obtain ⟨Ao43, co43, eo43⟩ := Kd.N_slice HO323.out; subst eo43))
       go_ret
       exact ⟨by first | rfl | (simp [errW_none, errW_some] <;> rfl) | (simp [*, errW_none, errW_some] <;> rfl), by repeat (first | (with_reducible first | exact HB.out | apply below_alloc | apply pw_below_drewN | apply below_drew1) | exact HB.out)⟩
      ·replace c12 := Bool.eq_false_iff.mpr c12
       subst c12
       have H1 : (some false) = some r := by rw [if_neg (show ¬ (false = true) by decide)] at H; exact H
       clear H
       have H := H1
       clear H1
       exact absurd (H.trans (congrArg some hrt_.out)) (by simp)
     ·replace c10 := Bool.eq_false_iff.mpr c10
      subst c10
      have H1 : (some false) = some r := by rw [if_neg (show ¬ (false = true) by decide)] at H; exact H
      clear H
      have H := H1
      clear H1
      exact absurd (H.trans (congrArg some hrt_.out)) (by simp)
    ·rw [if_neg c8] at H
     have c8b0 : (t312 == 0) = false := beq_eq_false_iff_ne.mpr c8
     have c8b1 : (t312 != 0) = true := bne_iff_ne.mpr c8
     exact absurd (H.trans (congrArg some hrt_.out)) (by simp)
   ·rw [if_neg c7] at H
    have c7b0 : (t302 == 6) = false := beq_eq_false_iff_ne.mpr c7
    have c7b1 : (t302 != 6) = true := bne_iff_ne.mpr c7
    exact absurd (H.trans (congrArg some hrt_.out)) (by simp)
  ·replace c6 := Bool.eq_false_iff.mpr c6
   subst c6
   have H1 : (some false) = some r := by rw [if_neg (show ¬ (false = true) by decide)] at H; exact H
   clear H
   have H := H1
   clear H1
   exact absurd (H.trans (congrArg some hrt_.out)) (by simp)
 ·rw [if_neg c4] at H
  have c4b0 : (t295 == 0) = false := beq_eq_false_iff_ne.mpr c4
  have c4b1 : (t295 != 0) = true := bne_iff_ne.mpr c4
  exact absurd (H.trans (congrArg some hrt_.out)) (by simp)
end Go.Proofs.Ytoaijganmfijmaa.Pr
-- shrunk
/-
The chapter's example of layer 7: it answers true.
-/
namespace Go.Proofs.Ytoaijganmfijmaa.Pr
open Go.RowKit Go.Proofs.YtoaijganmfijmaaW.PrintWords Go.Proofs.YtoaijganmfijmaaW.PrintLast Go.Proofs.YtoaijganmfijmaaW.PrintMore
set_option linter.unusedVariables false
set_option linter.unusedSimpArgs false
def grapevinelaw07_awake.f : Option Bool := some true
def ex1 : ByteArray := ⟨#[97]⟩
def ex2 : ByteArray := ⟨#[98]⟩
def ex3 : ByteArray := ⟨#[99]⟩
def exP : Ed := ⟨0, 1, [ex2]⟩
def exQ : Hk := ⟨0, 1, 0, 1, blkLines [⟨[], [ex1], [ex2]⟩] []⟩
theorem exQ_eq : exQ = ⟨0, 1, 0, 1, [(⟨#[45, 97]⟩ : ByteArray), (⟨#[43, 98]⟩ : ByteArray)]⟩ := by
 have hl : blkLines [⟨[], [ex1], [ex2]⟩] [] = [(⟨#[45, 97]⟩ : ByteArray), (⟨#[43, 98]⟩ : ByteArray)] := by decide
 rw [exQ, hl]
theorem exOk : BOk true [⟨[], [ex1], [ex2]⟩] := ⟨Or.inl (by simp), Or.inl rfl, trivial⟩
theorem exTakes : Takes [ex1] [ex2] 0 0 [exQ] := by
 refine ⟨0, 0, [⟨[], [ex1], [ex2]⟩], [], ⟨rfl, Nat.le_refl _, Nat.le_refl _, ?_, ?_, rfl, ?_, ?_, exOk⟩, ?_⟩
 ·simp [oldN]
 ·simp [newN]
 ·simp [oldN, oldL]
 ·simp [newN, newL]
 ·refine ⟨?_, ?_, ?_⟩ <;> simp [oldN, newN]
theorem exBetween : between [ex1] [ex2] = [exP] := by
 have e : ¬ ex1 = ex2 := by decide
 simp [between, midEdits, midOf, endOf, frontOf, common, steps, lcsLen, edits, addDel, addIns, opened, edLast, e, exP]
theorem exMake : makeH [ex1] 0 0 [exP] = [exQ] := by
 have e1 : fromH exP 0 = 0 := rfl
 have e2 : toH [ex1] exP [] 0 = 1 := rfl
 have e3 : linesH [ex1] 0 exP [] = blkLines [⟨[], [ex1], [ex2]⟩] [] := rfl
 rw [makeH, grp, makeH, hunkOf, e1, e2, e3]
 rfl
theorem exLines : exQ.f4.length = 2 := by rw [exQ_eq]; rfl
theorem exSmall (a : List ByteArray) (h : a.length ≤ 65536) : SmallA a [exQ] := by
 refine ⟨h, by simp, fun x hx => ?_⟩
 rw [List.mem_singleton] at hx
 subst hx
 exact ⟨by rw [exLines]; omega, by decide, by decide, by decide, by decide⟩
theorem exYes : apply_Apply.f [ex1] [exQ] = some ([ex2], 0) := by
 rw [apply_Apply.f, if_pos (exSmall _ (by simp)), takes_applyP exTakes]
theorem exNo : apply_Apply.f [ex3] [exQ] = some ([], 6) := by
 have hr := takes_right _ _ _ _ _ exTakes
 have h := (exact_all [ex1] [ex2] 0 ex3 (by simp) (by decide) [exQ] 0 0 [] exTakes (Nat.le_refl _)).1 ⟨exQ, List.mem_singleton.2 rfl, by decide, by decide⟩
 have e : [ex1].set 0 ex3 = [ex3] := rfl
 rw [e] at h
 rw [apply_Apply.f, if_pos (exSmall _ (by simp)), applyP, if_pos (by simpa using hr), h]
theorem exBig : BigL [exQ] := by
 intro x hx
 rw [List.mem_singleton] at hx
 subst hx
 refine ⟨by rw [exLines]; omega, fun s hs => ?_⟩
 rw [exQ_eq] at hs
 simp only [List.mem_cons, List.not_mem_nil, or_false] at hs
 rcases hs with rfl | rfl <;> show 2 ≤ _ <;> omega
theorem awake_ev : Ev (fun k => grapevinelaw07_awake0.f k) true := by
 unfold grapevinelaw07_awake0.f
 rw [← exQ_eq, show (⟨#[97]⟩ : ByteArray) = ex1 from rfl, show (⟨#[98]⟩ : ByteArray) = ex2 from rfl, show (⟨#[99]⟩ : ByteArray) = ex3 from rfl]
 have hm := Make_ev [ex1] [exP] 0 (by simp) (by simp) (by intro s hs; rw [List.mem_singleton] at hs; subst hs; show 1 ≤ _; omega) (by intro e he s hs; rw [List.mem_singleton] at he; subst he; rw [exP, List.mem_singleton] at hs; subst hs; show 1 ≤ _; omega) (by omega) (by omega) (by decide) (by decide)
 rw [exMake] at hm
 have hb : Ev (fun k => apply_Between.f k [ex1] [ex2] 0) ([exQ], 0) := by
  unfold apply_Between.f
  refine Ev.bind (a := [exP]) (Ev.none_of fun _ => by rw [diff_Diff.f, if_pos (by simp), exBetween]) ?_
  refine Ev.bind hm ?_
  exact Ev.now _
 have hr := takes_right _ _ _ _ _ exTakes
 refine Ev.bind (Ev.none_of fun _ => rfl) ?_
 refine Ev.bind (Ev.none_of fun _ => exYes) ?_
 refine Ev.bind (Ev.none_of fun _ => exNo) ?_
 refine Ev.bind hb ?_
 simp only [if_true]
 have ht := Texts_ev [ex2] [ex2] (by simp)
 rw [decide_eq_true rfl] at ht
 refine Ev.bind ht ?_
 simp only [if_true]
 refine Ev.bind (SameH_ev [exQ] (by simp) (by intro x hx; rw [List.mem_singleton] at hx; subst hx; rw [exLines]; omega)) ?_
 simp only [if_true]
 have hri := ARight_ev (exSmall [ex1] (by simp))
 rw [show rightP 0 0 [exQ] = true by simpa using hr] at hri
 refine Ev.bind hri ?_
 simp only [if_true]
 obtain ⟨m, hm1, hm2⟩ := takes_turn _ _ _ _ _ exTakes
 refine Ev.bind (ATurn_ev (exSmall [ex1] (by simp)) exBig (by simpa using hr) hm1) ?_
 rw [turned_len hm1]
 exact Ev.now _
theorem grapevinelaw07_awake.calls (r : Bool) (w : World) (h : grapevinelaw07_awake.f = some r) :
  Calls Try.prog 10 #[] w fun e w' => e = .returned (.bool r) ∧ Below w.heap.size w w' := by
 obtain rfl : true = r := Option.some.inj h
 obtain ⟨k, hk⟩ := awake_ev.rounds
 exact grapevinelaw07_awake0.calls k true w ⟨rfl⟩ hk
end Go.Proofs.Ytoaijganmfijmaa.Pr
-- shrunk
/-
How many lines hunks make.
-/
namespace Go.Proofs.Ytoaijganmfijmaa.Pr
open Go.RowKit Go.Proofs.YtoaijganmfijmaaW.PrintWords Go.Proofs.YtoaijganmfijmaaW.PrintLast Go.Proofs.YtoaijganmfijmaaW.PrintMore
set_option linter.unusedVariables false
set_option linter.unusedSimpArgs false
theorem apply_some {a : List ByteArray} {l : List Hk} (hs : SmallA a l) : apply_Apply.f a l = some (applyP a l) := by rw [apply_Apply.f, if_pos hs]
end Go.Proofs.Ytoaijganmfijmaa.Pr
-- shrunk
/-
Playing and turning edits: plain facts on lists, no program in sight.
-/
namespace Go.Proofs.Ytoaijganmfijmaa.Pr
set_option linter.unusedVariables false
set_option linter.unusedSimpArgs false
def playR (s : List ByteArray) (t : Int) : List Ed → List ByteArray
 | [] => s
 | e :: l => s.take (e.f0 - t).toNat ++ e.f2 ++ playR (s.drop (e.f0 - t + e.f1).toNat) (e.f0 + e.f1) l
theorem playFrom_R (a : List ByteArray) : ∀ (l : List Ed) (fr : Int) (t : Nat), (t : Int) ≤ fr → okFrom fr a.length l = true → playFrom a t l = playR (a.drop t) t l
 | [], fr, t, h, ho => rfl
 | e :: l, fr, t, h, ho => by
  obtain ⟨c1, c2, c3, c4, _, ho'⟩ := okFrom_cons ho
  simp only [playFrom, playR]
  rw [playFrom_R a l _ (e.f0 + e.f1).toNat (by omega) ho', List.drop_take, List.drop_drop, Int.toNat_of_nonneg (by omega), show e.f0.toNat - t = (e.f0 - (t : Int)).toNat by omega, show t + (e.f0 - (t : Int) + e.f1).toNat = (e.f0 + e.f1).toNat by omega]
theorem insE_le : ∀ l : List Ed, (insE l : Int) ≤ sizeE l
 | [] => by simp [insE, sizeE]
 | e :: l => by have := insE_le l; simp only [insE, sizeE]; push_cast; omega
end Go.Proofs.Ytoaijganmfijmaa.Pr
-- shrunk
/-
What is between two lists: it is right, played it is the other one; its size: plain facts on lists.
-/
namespace Go.Proofs.Ytoaijganmfijmaa.Pr
set_option linter.unusedVariables false
set_option linter.unusedSimpArgs false
def edG : Option Ed → Int → List Step → List Ed
 | none, _, [] => []
 | some e, _, [] => [e]
 | none, t, .keep :: r => edG none (t + 1) r
 | some e, t, .keep :: r => e :: edG none (t + 1) r
 | none, t, .del :: r => edG (some ⟨t, 1, []⟩) (t + 1) r
 | some e, t, .del :: r => edG (some ⟨e.f0, e.f1 + 1, e.f2⟩) (t + 1) r
 | none, t, .ins s :: r => edG (some ⟨t, 0, [s]⟩) t r
 | some e, t, .ins s :: r => edG (some ⟨e.f0, e.f1, e.f2 ++ [s]⟩) t r
theorem edLast_snoc (out : List Ed) (e : Ed) : edLast (out ++ [e]) = e := by simp [edLast]
theorem addDel_snoc (out : List Ed) (e : Ed) : addDel (out ++ [e]) = out ++ [⟨e.f0, e.f1 + 1, e.f2⟩] := by
 rw [addDel, edLast_snoc]
 simp
theorem addIns_snoc (s : ByteArray) (out : List Ed) (e : Ed) : addIns s (out ++ [e]) = out ++ [⟨e.f0, e.f1, e.f2 ++ [s]⟩] := by
 rw [addIns, edLast_snoc]
 simp
theorem edits_edG : ∀ (r : List Step) (t : Int) (out : List Ed), edits t false out r = out ++ edG none t r ∧ ∀ e, edits t true (out ++ [e]) r = out ++ edG (some e) t r
 | [], t, out => ⟨by simp [edits, edG], fun e => by simp [edits, edG]⟩
 | .keep :: r, t, out => ⟨by rw [edits, edG]; exact (edits_edG r (t + 1) out).1, fun e => by rw [edits, edG, (edits_edG r (t + 1) (out ++ [e])).1]; simp⟩
 | .del :: r, t, out => ⟨by
   rw [edits, edG, opened, if_neg (by simp), addDel_snoc]
   exact (edits_edG r (t + 1) out).2 _, fun e => by
   rw [edits, edG, opened, if_pos rfl, addDel_snoc]
   exact (edits_edG r (t + 1) out).2 _⟩
 | .ins s :: r, t, out => ⟨by
   rw [edits, edG, opened, if_neg (by simp), addIns_snoc]
   exact (edits_edG r t out).2 _, fun e => by
   rw [edits, edG, opened, if_pos rfl, addIns_snoc]
   exact (edits_edG r t out).2 _⟩
def app : List Step → List ByteArray → List ByteArray
 | [], s => s
 | .keep :: r, x :: s => x :: app r s
 | .keep :: r, [] => app r []
 | .del :: r, _ :: s => app r s
 | .del :: r, [] => app r []
 | .ins y :: r, s => y :: app r s
def cnt : List Step → Nat
 | [] => 0
 | .keep :: r => cnt r + 1
 | .del :: r => cnt r + 1
 | .ins _ :: r => cnt r
def chg : List Step → Nat
 | [] => 0
 | .keep :: r => chg r
 | .del :: r => chg r + 1
 | .ins _ :: r => chg r + 1
theorem play_edG : ∀ (r : List Step) (pre s : List ByteArray) (t : Int), cnt r ≤ s.length →
  playR (pre ++ s) t (edG none (t + pre.length) r) = pre ++ app r s ∧
  ∀ (e : Ed) (D : List ByteArray), e.f0 = t + pre.length → e.f1 = D.length → playR (pre ++ D ++ s) t (edG (some e) (t + pre.length + D.length) r) = pre ++ e.f2 ++ app r s
 | [], pre, s, t, h => ⟨by simp [edG, playR, app], fun e D h0 h1 => by
   simp only [edG, playR, app]
   rw [show (e.f0 - t).toNat = pre.length by omega, show (e.f0 - t + e.f1).toNat = (pre ++ D).length by rw [List.length_append]; omega, List.drop_left, List.append_assoc pre D s, List.take_left]⟩
 | .keep :: r, pre, [], t, h => by simp [cnt] at h
 | .keep :: r, pre, x :: s, t, h => by
  have hc : cnt r ≤ s.length := by simp [cnt] at h; exact h
  refine ⟨?_, fun e D h0 h1 => ?_⟩
  ·have h2 := (play_edG r (pre ++ [x]) s t hc).1
   rw [List.length_append, List.length_singleton] at h2
   rw [edG, app, show t + (pre.length : Int) + 1 = t + ((pre.length + 1 : Nat) : Int) by omega]
   simpa using h2
  ·rw [edG, app]
   simp only [playR]
   have h2 := (play_edG r [x] s (e.f0 + e.f1) hc).1
   rw [show (e.f0 - t).toNat = pre.length by omega, show (e.f0 - t + e.f1).toNat = (pre ++ D).length by rw [List.length_append]; omega, List.drop_left, List.append_assoc pre D, List.take_left]
   rw [show t + (pre.length : Int) + (D.length : Int) + 1 = e.f0 + e.f1 + (([x] : List ByteArray).length : Int) by simp; omega]
   have h3 : playR (x :: s) (e.f0 + e.f1) (edG none (e.f0 + e.f1 + (([x] : List ByteArray).length : Int)) r) = x :: app r s := by simpa using h2
   rw [h3]
 | .del :: r, pre, [], t, h => by simp [cnt] at h
 | .del :: r, pre, x :: s, t, h => by
  have hc : cnt r ≤ s.length := by simp [cnt] at h; exact h
  refine ⟨?_, fun e D h0 h1 => ?_⟩
  ·have h2 := (play_edG r pre s t hc).2 ⟨t + pre.length, 1, []⟩ [x] rfl (by simp)
   rw [edG, app]
   simpa using h2
  ·have h2 := (play_edG r pre s t hc).2 ⟨e.f0, e.f1 + 1, e.f2⟩ (D ++ [x]) h0 (by simp [h1])
   rw [edG, app]
   rw [List.length_append, List.length_singleton] at h2
   rw [show t + (pre.length : Int) + (D.length : Int) + 1 = t + (pre.length : Int) + ((D.length + 1 : Nat) : Int) by omega]
   simpa using h2
 | .ins y :: r, pre, s, t, h => by
  have hc : cnt r ≤ s.length := by simpa [cnt] using h
  refine ⟨?_, fun e D h0 h1 => ?_⟩
  ·have h2 := (play_edG r pre s t hc).2 ⟨t + pre.length, 0, [y]⟩ [] rfl (by simp)
   rw [edG, app]
   simpa using h2
  ·have h2 := (play_edG r pre s t hc).2 ⟨e.f0, e.f1, e.f2 ++ [y]⟩ D h0 h1
   rw [edG, app]
   simpa using h2
theorem ok_edG (many : Int) : ∀ (r : List Step) (fr t : Int), t + cnt r ≤ many →
  (fr ≤ t → okFrom fr many (edG none t r) = true) ∧ ∀ e : Ed, fr ≤ e.f0 → 0 ≤ e.f1 → ¬ (e.f1 = 0 ∧ e.f2 = []) → e.f0 + e.f1 = t → okFrom fr many (edG (some e) t r) = true
 | [], fr, t, h => ⟨fun _ => rfl, fun e h0 h1 h2 h3 => by
   simp only [cnt] at h
   simp only [edG, okFrom, Bool.and_true]
   exact decide_eq_true ⟨h0, h1, by omega, by omega, h2⟩⟩
 | .keep :: r, fr, t, h => ⟨fun hf => by
   simp only [cnt] at h
   rw [edG]
   exact (ok_edG many r fr (t + 1) (by push_cast at h; omega)).1 (by omega), fun e h0 h1 h2 h3 => by
   simp only [cnt] at h
   simp only [edG, okFrom]
   rw [decide_eq_true ⟨h0, h1, by push_cast at h; omega, by push_cast at h; omega, h2⟩, Bool.true_and]
   exact (ok_edG many r _ (t + 1) (by push_cast at h; omega)).1 (by omega)⟩
 | .del :: r, fr, t, h => ⟨fun hf => by
   simp only [cnt] at h
   rw [edG]
   exact (ok_edG many r fr (t + 1) (by push_cast at h; omega)).2 ⟨t, 1, []⟩ hf (by simp) (by simp) rfl, fun e h0 h1 h2 h3 => by
   simp only [cnt] at h
   rw [edG]
   exact (ok_edG many r fr (t + 1) (by push_cast at h; omega)).2 ⟨e.f0, e.f1 + 1, e.f2⟩ h0 (by show 0 ≤ e.f1 + 1; omega) (fun hh => by have : e.f1 + 1 = 0 := hh.1; omega) (by show e.f0 + (e.f1 + 1) = t + 1; omega)⟩
 | .ins y :: r, fr, t, h => ⟨fun hf => by
   simp only [cnt] at h
   rw [edG]
   exact (ok_edG many r fr t h).2 ⟨t, 0, [y]⟩ hf (by simp) (by simp) (by simp), fun e h0 h1 h2 h3 => by
   simp only [cnt] at h
   rw [edG]
   exact (ok_edG many r fr t h).2 ⟨e.f0, e.f1, e.f2 ++ [y]⟩ h0 h1 (by simp) h3⟩
theorem size_edG : ∀ (r : List Step) (t : Int), sizeE (edG none t r) = chg r ∧ ∀ e : Ed, 0 ≤ e.f1 → sizeE (edG (some e) t r) = e.f1 + e.f2.length + chg r
 | [], t => ⟨by simp [edG, sizeE, chg], fun e h => by simp only [edG, sizeE, chg]; omega⟩
 | .keep :: r, t => ⟨by rw [edG, chg]; exact (size_edG r _).1, fun e h => by rw [edG, chg, sizeE, (size_edG r _).1]; omega⟩
 | .del :: r, t => ⟨by rw [edG, chg, (size_edG r _).2 _ (by simp)]; simp; omega, fun e h => by rw [edG, chg, (size_edG r _).2 _ (by show 0 ≤ e.f1 + 1; omega)]; push_cast; omega⟩
 | .ins y :: r, t => ⟨by rw [edG, chg, (size_edG r _).2 _ (by simp)]; simp; omega, fun e h => by rw [edG, chg, (size_edG r _).2 ⟨e.f0, e.f1, e.f2 ++ [y]⟩ h]; simp; omega⟩
theorem steps_app (E : List ByteArray) : ∀ x y : List ByteArray, app (steps x y) (x ++ E) = y ++ E ∧ cnt (steps x y) = x.length
 | [], [] => ⟨by simp [steps, app], by simp [steps, cnt]⟩
 | [], y :: ys => by
  have h := steps_app E [] ys
  rw [steps]
  exact ⟨by rw [app, h.1]; rfl, by rw [cnt, h.2]⟩
 | x :: xs, [] => by
  have h := steps_app E xs []
  rw [steps]
  exact ⟨by rw [List.cons_append, app, h.1], by rw [cnt, h.2]; rfl⟩
 | x :: xs, y :: ys => by
  rw [steps]
  by_cases hxy : x = y
  ·have h := steps_app E xs ys
   rw [if_pos hxy]
   exact ⟨by rw [List.cons_append, app, h.1, hxy]; rfl, by rw [cnt, h.2]; rfl⟩
  ·rw [if_neg hxy]
   split
   ·have h := steps_app E xs (y :: ys)
    exact ⟨by rw [List.cons_append, app, h.1], by rw [cnt, h.2]; rfl⟩
   ·have h := steps_app E (x :: xs) ys
    exact ⟨by rw [app, h.1]; rfl, by rw [cnt, h.2]⟩
termination_by x y => x.length + y.length
theorem lcs_nil (x : List ByteArray) : lcsLen x [] = 0 := by cases x <;> simp [lcsLen]
theorem nil_lcs (y : List ByteArray) : lcsLen [] y = 0 := by simp [lcsLen]
theorem steps_chg : ∀ x y : List ByteArray, chg (steps x y) + 2 * lcsLen x y = x.length + y.length
 | [], [] => by simp [steps, chg, lcsLen]
 | [], y :: ys => by
  have h := steps_chg [] ys
  rw [steps, chg, nil_lcs]
  rw [nil_lcs] at h
  simp at h ⊢
  omega
 | x :: xs, [] => by
  have h := steps_chg xs []
  rw [steps, chg, lcs_nil]
  rw [lcs_nil] at h
  simp at h ⊢
  omega
 | x :: xs, y :: ys => by
  rw [steps, lcsLen]
  by_cases hxy : x = y
  ·have h := steps_chg xs ys
   rw [if_pos hxy, if_pos hxy, chg]
   simp only [List.length_cons]
   omega
  ·rw [if_neg hxy, if_neg hxy]
   have h1 := steps_chg xs (y :: ys)
   have h2 := steps_chg (x :: xs) ys
   simp only [List.length_cons] at h1 h2 ⊢
   split
   ·rw [chg]; omega
   ·rw [chg]; omega
termination_by x y => x.length + y.length
theorem commonE_le : ∀ a b : List ByteArray, common a b ≤ a.length ∧ common a b ≤ b.length ∧ a.take (common a b) = b.take (common a b)
 | [], b => by simp [common]
 | x :: xs, [] => by simp [common]
 | x :: xs, y :: ys => by
  rw [common]
  by_cases h : x = y
  ·have ih := commonE_le xs ys
   rw [if_pos h]
   exact ⟨by simp; exact ih.1, by simp; exact ih.2.1, by rw [List.take_succ_cons, List.take_succ_cons, ih.2.2, h]⟩
  ·rw [if_neg h]; simp
theorem between_split (a b : List ByteArray) : ∃ F x y E, a = F ++ (x ++ E) ∧ b = F ++ (y ++ E) ∧ between a b = midEdits (F.length : Int) x y := by
 obtain ⟨h1, h2, h3⟩ := commonE_le a b
 generalize ha : a.drop (common a b) = a' 
 generalize hb : b.drop (common a b) = b'
 obtain ⟨g1, g2, g3⟩ := commonE_le a'.reverse b'.reverse
 rw [List.length_reverse] at g1 g2
 have hE : a'.drop (a'.length - common a'.reverse b'.reverse) = b'.drop (b'.length - common a'.reverse b'.reverse) := by
  apply List.reverse_inj.1
  rw [List.reverse_drop, List.reverse_drop, show a'.length - (a'.length - common a'.reverse b'.reverse) = common a'.reverse b'.reverse by omega, show b'.length - (b'.length - common a'.reverse b'.reverse) = common a'.reverse b'.reverse by omega]
  exact g3
 refine ⟨a.take (common a b), a'.take (a'.length - common a'.reverse b'.reverse), b'.take (b'.length - common a'.reverse b'.reverse), a'.drop (a'.length - common a'.reverse b'.reverse), ?_, ?_, ?_⟩
 ·rw [List.take_append_drop, ← ha, List.take_append_drop]
 ·rw [hE, List.take_append_drop, h3, ← hb, List.take_append_drop]
 ·rw [between, midOf, endOf, frontOf, ha, hb, List.length_take, Nat.min_eq_left h1]
theorem playR_block (pre x y E : List ByteArray) : playR (pre ++ (x ++ E)) 0 [⟨(pre.length : Int), (x.length : Int), y⟩] = pre ++ (y ++ E) := by
 simp only [playR]
 rw [show ((pre.length : Int) - 0).toNat = pre.length by omega, show ((pre.length : Int) - 0 + (x.length : Int)).toNat = (pre ++ x).length by rw [List.length_append]; omega, List.take_left, ← List.append_assoc pre x, List.drop_left, List.append_assoc]
theorem mid_ok (F x y E : List ByteArray) : okFrom 0 ((F ++ (x ++ E)).length : Int) (midEdits (F.length : Int) x y) = true ∧ playR (F ++ (x ++ E)) 0 (midEdits (F.length : Int) x y) = F ++ (y ++ E) := by
 rw [midEdits]
 by_cases c1 : x = [] ∧ y = []
 ·rw [if_pos c1]
  exact ⟨rfl, by rw [c1.1, c1.2]; rfl⟩
 ·rw [if_neg c1]
  by_cases c2 : x = [] ∨ y = [] ∨ 65536 < x.length * y.length
  ·rw [if_pos c2]
   refine ⟨?_, playR_block F x y E⟩
   simp only [okFrom, Bool.and_true, List.length_append]
   refine decide_eq_true ⟨by omega, by omega, by push_cast; omega, by push_cast; omega, fun h => c1 ⟨List.eq_nil_of_length_eq_zero (by have := h.1; omega), h.2⟩⟩
  ·rw [if_neg c2, (edits_edG _ _ []).1, List.nil_append]
   have hs := steps_app E x y
   refine ⟨(ok_edG _ _ 0 _ (by rw [hs.2, List.length_append, List.length_append]; push_cast; omega)).1 (by omega), ?_⟩
   have h := (play_edG (steps x y) F (x ++ E) 0 (by rw [hs.2, List.length_append]; omega)).1
   rw [hs.1, Int.zero_add] at h
   exact h
theorem between_ok (a b : List ByteArray) : okFrom 0 a.length (between a b) = true ∧ playFrom a 0 (between a b) = b := by
 obtain ⟨F, x, y, E, rfl, rfl, e⟩ := between_split a b
 rw [e]
 have h := mid_ok F x y E
 refine ⟨h.1, ?_⟩
 rw [playFrom_R _ _ 0 0 (by omega) h.1, List.drop_zero]
 exact h.2
end Go.Proofs.Ytoaijganmfijmaa.Pr
-- shrunk
/-
Longest common subsequences: what their lengths satisfy. Plain facts on lists.
-/
namespace Go.Proofs.Ytoaijganmfijmaa.Pr
set_option linter.unusedVariables false
set_option linter.unusedSimpArgs false
open List (Sublist)
theorem lcs_has : ∀ x y : List ByteArray, ∃ s : List ByteArray, s.Sublist x ∧ s.Sublist y ∧ s.length = lcsLen x y
 | [], y => ⟨[], List.nil_sublist _, List.nil_sublist _, by simp [lcsLen]⟩
 | x :: xs, [] => ⟨[], List.nil_sublist _, List.nil_sublist _, by simp [lcsLen]⟩
 | x :: xs, y :: ys => by
  rw [lcsLen]
  by_cases h : x = y
  ·obtain ⟨s, h1, h2, h3⟩ := lcs_has xs ys
   rw [if_pos h]
   exact ⟨x :: s, h1.cons_cons x, by rw [h]; exact h2.cons_cons y, by simp [h3]⟩
  ·rw [if_neg h]
   rcases Nat.le_total (lcsLen (x :: xs) ys) (lcsLen xs (y :: ys)) with hl | hl
   ·obtain ⟨s, h1, h2, h3⟩ := lcs_has xs (y :: ys)
    exact ⟨s, h1.cons x, h2, by rw [h3]; omega⟩
   ·obtain ⟨s, h1, h2, h3⟩ := lcs_has (x :: xs) ys
    exact ⟨s, h1, h2.cons y, by rw [h3]; omega⟩
termination_by x y => x.length + y.length
theorem lcs_most : ∀ (x y s : List ByteArray), s.Sublist x → s.Sublist y → s.length ≤ lcsLen x y
 | [], y, s, h1, h2 => by rw [List.sublist_nil.1 h1]; simp
 | x :: xs, [], s, h1, h2 => by rw [List.sublist_nil.1 h2]; simp
 | x :: xs, y :: ys, s, h1, h2 => by
  rw [lcsLen]
  by_cases h : x = y
  ·rw [if_pos h]
   match s with
   | [] => simp
   | z :: s' =>
    have g1 : s'.Sublist xs := by
     have := List.Sublist.tail h1
     simpa using this
    have g2 : s'.Sublist ys := by
     have := List.Sublist.tail h2
     simpa using this
    have := lcs_most xs ys s' g1 g2
    simp only [List.length_cons]
    omega
  ·rw [if_neg h]
   cases h1 with
   | cons _ g1 =>
    have := lcs_most xs (y :: ys) s g1 h2
    omega
   | cons_cons _ g1 =>
    cases h2 with
    | cons _ g2 =>
     have := lcs_most (x :: xs) ys _ (g1.cons_cons x) g2
     omega
    | cons_cons _ g2 => exact absurd rfl h
termination_by x y => x.length + y.length
theorem lcs_unique {x y : List ByteArray} {n : Nat} (h1 : ∃ s : List ByteArray, s.Sublist x ∧ s.Sublist y ∧ s.length = n) (h2 : ∀ s : List ByteArray, s.Sublist x → s.Sublist y → s.length ≤ n) : lcsLen x y = n := by
 obtain ⟨s, a1, a2, a3⟩ := h1
 obtain ⟨t, b1, b2, b3⟩ := lcs_has x y
 have := lcs_most x y s a1 a2
 have := h2 t b1 b2
 omega
theorem lcs_reverse (x y : List ByteArray) : lcsLen x.reverse y.reverse = lcsLen x y := by
 obtain ⟨t, b1, b2, b3⟩ := lcs_has x y
 refine lcs_unique ⟨t.reverse, b1.reverse, b2.reverse, by simpa using b3⟩ (fun s h1 h2 => ?_)
 have := lcs_most x y s.reverse (by have := h1.reverse; simpa using this) (by have := h2.reverse; simpa using this)
 simpa using this
theorem lcs_front : ∀ (F x y : List ByteArray), lcsLen (F ++ x) (F ++ y) = F.length + lcsLen x y
 | [], x, y => by simp
 | f :: F, x, y => by rw [List.cons_append, List.cons_append, lcsLen, if_pos rfl, lcs_front F x y, List.length_cons]; omega
theorem lcs_end (x y E : List ByteArray) : lcsLen (x ++ E) (y ++ E) = lcsLen x y + E.length := by
 rw [← lcs_reverse, List.reverse_append, List.reverse_append, lcs_front, lcs_reverse, List.length_reverse]; omega
theorem between_size (a b : List ByteArray) (h : a.length * b.length ≤ 65536) : sizeE (between a b) + 2 * (lcsLen a b : Int) = a.length + b.length := by
 obtain ⟨F, x, y, E, rfl, rfl, e⟩ := between_split a b
 rw [e, lcs_front, lcs_end, midEdits]
 have hxy : x.length * y.length ≤ 65536 := Nat.le_trans (Nat.mul_le_mul (by simp only [List.length_append]; omega) (by simp only [List.length_append]; omega)) h
 simp only [List.length_append]
 by_cases c1 : x = [] ∧ y = []
 ·rw [if_pos c1, c1.1, c1.2]
  simp [sizeE, lcsLen]
  omega
 ·rw [if_neg c1]
  by_cases c2 : x = [] ∨ y = [] ∨ 65536 < x.length * y.length
  ·rw [if_pos c2]
   have h0 : lcsLen x y = 0 := by
    rcases c2 with c | c | c
    ·rw [c, nil_lcs]
    ·rw [c, lcs_nil]
    ·omega
   rw [h0]
   simp only [sizeE]
   push_cast
   omega
  ·rw [if_neg c2, (edits_edG _ _ []).1, List.nil_append, (size_edG _ _).1]
   have := steps_chg x y
   push_cast
   omega
end Go.Proofs.Ytoaijganmfijmaa.Pr
-- shrunk
/-
What the laws of layer 5 have in common: the example, what is between two lists.
-/
namespace Go.Proofs.Ytoaijganmfijmaa.Pr
open Go.RowKit Go.Proofs.YtoaijganmfijmaaW.PrintWords Go.Proofs.YtoaijganmfijmaaW.PrintLast Go.Proofs.YtoaijganmfijmaaW.PrintMore
set_option linter.unusedVariables false
set_option linter.unusedSimpArgs false
theorem len_le_size : ∀ (l : List Ed) (fr many : Int), okFrom fr many l = true → (l.length : Int) ≤ sizeE l
 | [], fr, many, h => by simp [sizeE]
 | e :: l, fr, many, h => by
  obtain ⟨c1, c2, c3, c4, c5, h'⟩ := okFrom_cons h
  have ih := len_le_size l _ _ h'
  simp only [sizeE, List.length_cons]
  have : e.f1 = 0 → e.f2.length ≠ 0 := fun h0 h1 => c5 ⟨h0, List.eq_nil_of_length_eq_zero h1⟩
  push_cast
  omega
theorem small_mul {m n k : Nat} (h1 : m ≤ k) (h2 : n ≤ k) (hk : k ≤ 40) : m * n ≤ 65536 := by
 have := Nat.mul_le_mul h1 h2
 have := Nat.mul_le_mul hk hk
 omega
theorem Diff_some (a b : List ByteArray) (h1 : a.length ≤ 4096) (h2 : b.length ≤ 4096) : diff_Diff.f a b = some (between a b) := by
 rw [diff_Diff.f, if_pos (by omega)]
theorem play_mem (a : List ByteArray) : ∀ (l : List Ed) (t : Nat) (e : Ed) (s : ByteArray), e ∈ l → s ∈ e.f2 → s ∈ playFrom a t l
 | x :: l, t, e, s, he, hs => by
  simp only [playFrom, List.mem_append]
  rcases List.mem_cons.1 he with rfl | he
  ·exact Or.inl (Or.inr hs)
  ·exact Or.inr (play_mem a l _ e s he hs)
theorem mod_in {x n : Int} (h0 : 0 ≤ x) (hn : 0 < n) (hn2 : n ≤ 1001) : wrap64 (Int.tmod x n) = x % n ∧ 0 ≤ x % n ∧ x % n < n := by
 have h1 := Int.emod_nonneg x (show n ≠ 0 by omega)
 have h2 := Int.emod_lt_of_pos x hn
 rw [Int.tmod_eq_emod_of_nonneg h0]
 exact ⟨w_in (by omega) (by omega), h1, h2⟩
theorem u8_nn {a : Int} (h : (Lit.int .u8 a).wf = true) : 0 ≤ a := by
 simp only [Lit.wf, Bool.and_eq_true, decide_eq_true_eq] at h
 have e1 : IntKind.u8.min = 0 := rfl
 omega
theorem breaks_most (ar : Int) : ∀ (l : List Ed) (p : Ed), breaks ar p l ≤ l.length
 | [], p => Nat.le_refl _
 | e :: l, p => by have := breaks_most ar l e; rw [breaks, List.length_cons]; split <;> omega
theorem makeH_most (a : List ByteArray) (ar : Int) (l : List Ed) : (makeH a ar 0 l).length ≤ l.length := by
 rw [makeH_len a _ _ l 0 (Nat.le_refl _)]
 cases l with
 | nil => exact Nat.le_refl _
 | cons p l => have := breaks_most ar l p; show 1 + _ ≤ _; rw [List.length_cons]; omega
structure LawB (a b : List ByteArray) : Prop where
 ok : okFrom 0 a.length (between a b) = true
 pl : playFrom a 0 (between a b) = b
 len : (between a b).length ≤ 80
 ins : insE (between a b) ≤ 80
 sz : 0 ≤ sizeE (between a b) ∧ sizeE (between a b) ≤ 80
 o40 : Ok40 (between a b)
 str : ∀ e ∈ between a b, ∀ s ∈ e.f2, s.size ≤ 4611686018427387904
theorem law_between (a b : List ByteArray) (ha : a.length ≤ 40) (hb : b.length ≤ 40) (zb : ∀ s ∈ b, s.size ≤ 140737488351232) : LawB a b := by
 obtain ⟨o1, p1⟩ := between_ok a b
 have hs := between_size a b (small_mul (k := 40) ha hb (by omega))
 have hl := len_le_size _ _ _ o1
 have hi := insE_le (between a b)
 have hn := sizeE_nonneg (between a b)
 refine ⟨o1, p1, by omega, by omega, ⟨hn, by omega⟩, ⟨by omega, fun e he => by have := insE_mem' _ e he; omega⟩, fun e he s hs => ?_⟩
 have := zb s (by rw [← p1]; exact play_mem a _ 0 e s he hs)
 omega
end Go.Proofs.Ytoaijganmfijmaa.Pr
-- shrunk
/-
The hunks between two lists take one to the other; their sizes.
-/
namespace Go.Proofs.Ytoaijganmfijmaa.Pr
open Go.RowKit Go.Proofs.YtoaijganmfijmaaW.PrintWords Go.Proofs.YtoaijganmfijmaaW.PrintLast Go.Proofs.YtoaijganmfijmaaW.PrintMore
set_option linter.unusedVariables false
set_option linter.unusedSimpArgs false
theorem blk_mem : ∀ (bs : List Blk) (t : List ByteArray) (s : ByteArray), s ∈ blkLines bs t → ∃ c x, s = sg c x ∧ (x ∈ oldL bs t ∨ x ∈ newL bs t)
 | [], t, s, h => by
  obtain ⟨x, hx, rfl⟩ := List.mem_map.1 h
  exact ⟨_, x, rfl, Or.inl hx⟩
 | b :: bs, t, s, h => by
  simp only [blkLines, List.mem_append] at h
  simp only [oldL, newL, List.mem_append]
  rcases h with h | h | h | h
  ·obtain ⟨x, hx, rfl⟩ := List.mem_map.1 h
   exact ⟨_, x, rfl, Or.inl (Or.inl hx)⟩
  ·obtain ⟨x, hx, rfl⟩ := List.mem_map.1 h
   exact ⟨_, x, rfl, Or.inl (Or.inr (Or.inl hx))⟩
  ·obtain ⟨x, hx, rfl⟩ := List.mem_map.1 h
   exact ⟨_, x, rfl, Or.inr (Or.inr (Or.inl hx))⟩
  ·obtain ⟨c, x, e, hx⟩ := blk_mem bs t s h
   exact ⟨c, x, e, hx.elim (fun h => Or.inl (Or.inr (Or.inr h))) (fun h => Or.inr (Or.inr (Or.inr h)))⟩
theorem takes_each (a b : List ByteArray) : ∀ (l : List Hk) (d d' : Nat), Takes a b d d' l → ∀ h ∈ l, ∃ (D D' A B : Nat) (bs : List Blk) (t : List ByteArray), TakeOne a b D D' h A B bs t
 | [], d, d', _, h, hh => absurd hh (by simp)
 | x :: l, d, d', H, h, hh => by
  obtain ⟨A, B, bs, t, H, hr⟩ := H
  rcases List.mem_cons.1 hh with rfl | hh
  ·exact ⟨d, d', A, B, bs, t, H⟩
  ·exact takes_each a b l _ _ hr h hh
theorem takes_small {a b : List ByteArray} {l : List Hk} {d d' : Nat} (H : Takes a b d d' l) (ha : a.length ≤ 30000) (hb : b.length ≤ 30000) (hl : l.length ≤ 1024) : SmallA a l := by
 refine ⟨by omega, hl, fun h hh => ?_⟩
 obtain ⟨D, D', A, B, bs, t, H⟩ := takes_each a b l d d' H h hh
 have h1 := H.hA
 have h2 := H.hB
 have h3 := blkLines_len bs t
 rw [H.eq]
 refine ⟨?_, ?_, ?_, ?_, ?_⟩
 ·show (blkLines bs t).length ≤ 65536; omega
 ·show (-1099511627776 : Int) ≤ (A : Int); omega
 ·show (A : Int) ≤ 1099511627776; omega
 ·show (-1099511627776 : Int) ≤ (B : Int); omega
 ·show (B : Int) ≤ 1099511627776; omega
theorem takes_big {a b : List ByteArray} {l : List Hk} {d d' : Nat} (H : Takes a b d d' l) (ha : a.length ≤ 30000) (hb : b.length ≤ 30000) (za : ∀ s ∈ a, s.size ≤ 140737488351232) (zb : ∀ s ∈ b, s.size ≤ 140737488351232) : BigL l := by
 intro h hh
 obtain ⟨D, D', A, B, bs, t, H⟩ := takes_each a b l d d' H h hh
 have h1 := H.hA
 have h2 := H.hB
 have h3 := blkLines_len bs t
 rw [H.eq]
 refine ⟨?_, fun s hs => ?_⟩
 ·show (blkLines bs t).length ≤ 65536; omega
 ·obtain ⟨c, x, e, hx⟩ := blk_mem bs t s hs
  have hz : x.size ≤ 140737488351232 := by
   rcases hx with hx | hx
   ·rw [← H.ho] at hx
    exact za x (List.mem_of_mem_drop (List.mem_of_mem_take hx))
   ·rw [← H.hn] at hx
    exact zb x (List.mem_of_mem_drop (List.mem_of_mem_take hx))
  rw [e, sg_size]; omega
theorem between_takes (a b : List ByteArray) (ar : Int) (h0 : 0 ≤ ar) (hL : LawB a b) : Takes a b 0 0 (makeH a ar 0 (between a b)) :=
 makeH_takes a b ar h0 _ (between a b) 0 0 0 0 (Nat.le_refl _) (Int.le_refl _) hL.ok (by omega) (Nat.zero_le _) (Nat.zero_le _) (by rw [hL.pl]; rfl) (fun _ _ => Nat.zero_le _)
theorem Between_ev (a b : List ByteArray) (ar : Int) (ha : a.length ≤ 40) (hb : b.length ≤ 40) (h0 : 0 ≤ ar) (h1 : ar ≤ 1000) (za : ∀ s ∈ a, s.size ≤ 140737488351232) (hL : LawB a b) : Ev (fun k => apply_Between.f k a b ar) (makeH a ar 0 (between a b), 0) := by
 have hl := hL.len
 have hi := hL.ins
 unfold apply_Between.f
 refine Ev.bind (Ev.none_of fun _ => Diff_some a b (by omega) (by omega)) ?_
 refine Ev.bind (Make_ev a (between a b) ar (by omega) (by omega) (fun s h => by have := za s h; omega) hL.str h0 h1 hL.ok (by omega)) ?_
 exact Ev.now _
end Go.Proofs.Ytoaijganmfijmaa.Pr
-- shrunk
-- written by a program of this session's (a turned copy of the kit's printer); Lean checks it
namespace Go.Proofs.Ytoaijganmfijmaa.Pr
open Go.RowKit Go.Proofs.YtoaijganmfijmaaW.PrintWords Go.Proofs.YtoaijganmfijmaaW.PrintLast Go.Proofs.YtoaijganmfijmaaW.PrintMore
attribute [local go_sem] max2_int min2_int max_two min_two max_three min_three max_four min_four   -- for this text's walks alone
set_option linter.unusedVariables false
set_option linter.unusedSimpArgs false

def grapevinelaw07_ApplyBack.j0 : Nat → List ByteArray → List ByteArray → Int → Bool → Bool → Option (Bool)
 | 0, _, _, _, _, _ => none
 | k + 1, x0, x1, x2, x7, x23 => if x23 = true then (some x7) else ((apply_Between.f k x0 x1 (wrap64 (Int.tmod x2 51))).bind fun bt414 => ((apply_Apply.f x0 bt414.1).bind fun bt418 => ((apply_Turn.f k bt414.1).bind fun t422 => ((apply_Apply.f x1 t422).bind fun bt425 => (if x7 = true then (if bt414.2 = 0 then (if bt418.2 = 0 then (if bt425.2 = 0 then ((grapevineref01_Texts.f k bt418.1 x1).bind fun t429 => (if t429 = true then ((grapevineref01_Texts.f k bt425.1 x0).bind fun t430 => (if t430 = true then ((apply_Right.f k bt414.1).bind fun t431 => (if t431 = true then ((apply_Right.f k t422).bind fun t432 => (if t432 = true then ((apply_Turn.f k t422).bind fun t433 => ((grapevineref05_Same.f k t433 bt414.1).bind fun t436 => (some t436))) else (some false))) else (some false))) else (some false))) else (some false))) else (some false)) else (some false)) else (some false)) else (some false))))))
def grapevinelaw07_ApplyBack.f (k : Nat) (l0 : List ByteArray) (l1 : List ByteArray) (a2 : Int) : Option (Bool) := (grapevinelaw07_awake.f).bind fun t413 => (if (l0.length : Int) > 40 then (grapevinelaw07_ApplyBack.j0 k l0 l1 a2 t413 true) else (grapevinelaw07_ApplyBack.j0 k l0 l1 a2 t413 (decide ((l1.length : Int) > 40))))
theorem grapevinelaw07_ApplyBack.mono_l : ∀ k, (∀ y0 y1 y2 y3 y4, LeO (grapevinelaw07_ApplyBack.j0 k y0 y1 y2 y3 y4) (grapevinelaw07_ApplyBack.j0 (k + 1) y0 y1 y2 y3 y4))
 | 0 => fun _ _ _ _ _ r h => by simp [grapevinelaw07_ApplyBack.j0] at h
 | k + 1 => by
  have ih0 := grapevinelaw07_ApplyBack.mono_l k
  ·intro y0 y1 y2 y3 y4
   unfold grapevinelaw07_ApplyBack.j0
   repeat' first
   | (with_reducible exact ih0 _ _ _ _ _)
   | (with_reducible exact apply_Between.mono _ _ _ _)
   | (with_reducible exact apply_Right.mono _ _)
   | (with_reducible exact apply_Turn.mono _ _)
   | (with_reducible exact grapevineref01_Texts.mono _ _ _)
   | (with_reducible exact grapevineref05_Same.mono _ _ _)
   | (with_reducible exact LeO.refl _)
   | (with_reducible exact LeO.none _)
   | (with_reducible refine LeO.ite ?_ ?_)
   | (with_reducible refine LeO.bind ?_ (fun _ => ?_))
   | exact ih0 _ _ _ _ _
   | exact apply_Between.mono _ _ _ _
   | exact apply_Right.mono _ _
   | exact apply_Turn.mono _ _
   | exact grapevineref01_Texts.mono _ _ _
   | exact grapevineref05_Same.mono _ _ _
   | exact LeO.none _
   | refine LeO.ite ?_ ?_
   | refine LeO.bind ?_ (fun _ => ?_)
theorem grapevinelaw07_ApplyBack.mono : ∀ a0 a1 a2 k, LeO (grapevinelaw07_ApplyBack.f k a0 a1 a2) (grapevinelaw07_ApplyBack.f (k + 1) a0 a1 a2) := by
 intro a0 a1 a2 k
 have ih0 := grapevinelaw07_ApplyBack.mono_l k
 unfold grapevinelaw07_ApplyBack.f
 repeat' first
   | (with_reducible exact ih0 _ _ _ _ _)
   | (with_reducible exact apply_Between.mono _ _ _ _)
   | (with_reducible exact apply_Right.mono _ _)
   | (with_reducible exact apply_Turn.mono _ _)
   | (with_reducible exact grapevineref01_Texts.mono _ _ _)
   | (with_reducible exact grapevineref05_Same.mono _ _ _)
   | (with_reducible exact LeO.refl _)
   | (with_reducible exact LeO.none _)
   | (with_reducible refine LeO.ite ?_ ?_)
   | (with_reducible refine LeO.bind ?_ (fun _ => ?_))
   | exact ih0 _ _ _ _ _
   | exact apply_Between.mono _ _ _ _
   | exact apply_Right.mono _ _
   | exact apply_Turn.mono _ _
   | exact grapevineref01_Texts.mono _ _ _
   | exact grapevineref05_Same.mono _ _ _
   | exact LeO.none _
   | refine LeO.ite ?_ ?_
   | refine LeO.bind ?_ (fun _ => ?_)
set_option maxHeartbeats 8000000 in
set_option maxRecDepth 100000 in
theorem grapevinelaw07_ApplyBack.calls (k : Nat) (A0 : Option Addr) (c0 : Nat) (l0 : List ByteArray) (A1 : Option Addr) (c1 : Nat) (l1 : List ByteArray) (a2 : Int) (r : Bool) (w : World) (hrt_ : Aside0 (r = true)) (hr0 : Kd.C Kd.string w A0 l0.length l0) (hc0 : l0.length ≤ c0) (hr1 : Kd.C Kd.string w A1 l1.length l1) (hc1 : l1.length ≤ c1) (h : grapevinelaw07_ApplyBack.f k l0 l1 a2 = some r) :
  Calls Try.prog 5 #[.slice A0 l0.length c0, .slice A1 l1.length c1, .int .u8 a2] w fun e w' => e = .returned (.bool r) ∧ Below w.heap.size w w' := by
 have HR0 := Aside0.mk hr0
 have HC0 := Aside0.mk hc0
 clear hr0 hc0
 have HR1 := Aside0.mk hr1
 have HC1 := Aside0.mk hc1
 clear hr1 hc1
 have HB := Aside0.mk (Below.refl w.heap.size w)
 have H : ((grapevinelaw07_awake.f).bind fun t413 => (if (l0.length : Int) > 40 then (grapevinelaw07_ApplyBack.j0 k l0 l1 a2 t413 true) else (grapevinelaw07_ApplyBack.j0 k l0 l1 a2 t413 (decide ((l1.length : Int) > 40))))) = some r := h
 clear h
 replace H := Option.bind_eq_some_iff.mp H
 obtain ⟨t413, A40, H⟩ := H
 replace H : (if (l0.length : Int) > 40 then (grapevinelaw07_ApplyBack.j0 k l0 l1 a2 t413 true) else (grapevinelaw07_ApplyBack.j0 k l0 l1 a2 t413 (decide ((l1.length : Int) > 40)))) = some r := H
 have A4 := Aside0.mk A40
 clear A40
 have HC5 := Aside0.mk H
 clear H
 go_enter Try.func5, Try.ntmps5
 go_upto_region 2 with (first | ((with_reducible refine gate_callee (f := 10) rfl ?_); refine goesL_ (some 15) rfl rfl Try.func10 (by kernel_rfl) rfl #[] rfl (by (try simp only [List.map_toArray, List.map_cons, List.map_nil]); first | done | rfl | (simp only [List.length_drop, List.length_take]; rfl)) ?_; (with_reducible refine (grapevinelaw07_awake.calls  t413 _ A4.out).mono ?_); rintro e w6 ⟨rfl, hb⟩; refine ⟨_, rfl, ?_⟩; have n0_ := Aside0.mk (below_step (by repeat (first | (with_reducible first | exact HB.out | apply below_alloc | apply pw_below_drewN | apply below_drew1) | exact HB.out)) hb); clear HB; have HB := n0_; clear n0_; (try clear hb); (try clear hb2); (try clear hk); (try clear hi)))
 (try simp only [Act.put, List.setIfInBounds_toArray, List.set_cons_zero, List.set_cons_succ])
 go_cut [23] (fun v23 wc => ∃ (kq : Nat) (x23_4 : Bool), v23 = .bool x23_4 ∧ Aside0 (grapevinelaw07_ApplyBack.j0 kq l0 l1 a2 t413 x23_4 = some r) ∧ Aside0 (kq ≤ k) ∧ Aside0 (Below w.heap.size w wc))
 case first =>
  have H := HC5.out
  clear HC5
  by_cases c7 : (l0.length : Int) > 40
  ·rw [if_pos c7] at H
   have c7b0 : decide (40 < (l0.length : Int)) = true := decide_eq_true c7
   have c7b1 : decide (40 < l0.length) = true := decide_eq_true (by omega)
   clear c7
   (first | rw [c7b0] | (simp only [i64_w, i32_w]; rw [c7b0]) | skip)
   have H' := Aside0.mk H
   clear H
   go_wp2
   go_meet
   case rel => exact ⟨_, (true), (by first | rfl | (simp; done) | (simp [*]; done)), H', ⟨by first | omega | exact Nat.le_refl _⟩, ⟨by repeat (first | (with_reducible first | exact HB.out | apply below_alloc | apply pw_below_drewN | apply below_drew1) | exact HB.out)⟩⟩
  ·rw [if_neg c7] at H
   have c7b0 : decide (40 < (l0.length : Int)) = false := decide_eq_false c7
   have c7b1 : decide (40 < l0.length) = false := decide_eq_false (by omega)
   clear c7
   (first | rw [c7b0] | (simp only [i64_w, i32_w]; rw [c7b0]) | skip)
   have H' := Aside0.mk H
   clear H
   go_wp2
   go_meet
   case rel => exact ⟨_, (decide ((l1.length : Int) > 40)), (by first | rfl | (simp; done) | (simp [*]; done)), H', ⟨by first | omega | exact Nat.le_refl _⟩, ⟨by repeat (first | (with_reducible first | exact HB.out | apply below_alloc | apply pw_below_drewN | apply below_drew1) | exact HB.out)⟩⟩
 case rest =>
  clear HC5
  try clear c1
  try clear p2
  try clear c5
  try clear c7
  try clear c7b0
  try clear c7b1
  obtain ⟨kq, x23_4, rfl, HA, HJ4, HB⟩ := hcut
  cases kq with
  | zero => exact absurd HA.out (by simp [grapevinelaw07_ApplyBack.j0])
  | succ kj4 =>
   have H := HA.out
   clear HA
   simp only [grapevinelaw07_ApplyBack.j0] at H
   by_cases c8 : x23_4 = true
   ·subst c8
    have H1 : (some t413) = some r := by rw [if_pos rfl] at H; exact H
    clear H
    have H := H1
    clear H1
    obtain rfl := Option.some.inj H
    go_wp2
    go_ret
    exact ⟨by first | rfl | (simp [errW_none, errW_some] <;> rfl) | (simp [*, errW_none, errW_some] <;> rfl), by repeat (first | (with_reducible first | exact HB.out | apply below_alloc | apply pw_below_drewN | apply below_drew1) | exact HB.out)⟩
   ·replace c8 := Bool.eq_false_iff.mpr c8
    subst c8
    have H1 : ((apply_Between.f kj4 l0 l1 (wrap64 (Int.tmod a2 51))).bind fun bt414 => ((apply_Apply.f l0 bt414.1).bind fun bt418 => ((apply_Turn.f kj4 bt414.1).bind fun t422 => ((apply_Apply.f l1 t422).bind fun bt425 => (if t413 = true then (if bt414.2 = 0 then (if bt418.2 = 0 then (if bt425.2 = 0 then ((grapevineref01_Texts.f kj4 bt418.1 l1).bind fun t429 => (if t429 = true then ((grapevineref01_Texts.f kj4 bt425.1 l0).bind fun t430 => (if t430 = true then ((apply_Right.f kj4 bt414.1).bind fun t431 => (if t431 = true then ((apply_Right.f kj4 t422).bind fun t432 => (if t432 = true then ((apply_Turn.f kj4 t422).bind fun t433 => ((grapevineref05_Same.f kj4 t433 bt414.1).bind fun t436 => (some t436))) else (some false))) else (some false))) else (some false))) else (some false))) else (some false)) else (some false)) else (some false)) else (some false)))))) = some r := by rw [if_neg (show ¬ (false = true) by decide)] at H; exact H
    clear H
    have H := H1
    clear H1
    replace H := Option.bind_eq_some_iff.mp H
    obtain ⟨⟨t414, t415⟩, A90, H⟩ := H
    replace H : ((apply_Apply.f l0 t414).bind fun bt418 => ((apply_Turn.f kj4 t414).bind fun t422 => ((apply_Apply.f l1 t422).bind fun bt425 => (if t413 = true then (if t415 = 0 then (if bt418.2 = 0 then (if bt425.2 = 0 then ((grapevineref01_Texts.f kj4 bt418.1 l1).bind fun t429 => (if t429 = true then ((grapevineref01_Texts.f kj4 bt425.1 l0).bind fun t430 => (if t430 = true then ((apply_Right.f kj4 t414).bind fun t431 => (if t431 = true then ((apply_Right.f kj4 t422).bind fun t432 => (if t432 = true then ((apply_Turn.f kj4 t422).bind fun t433 => ((grapevineref05_Same.f kj4 t433 t414).bind fun t436 => (some t436))) else (some false))) else (some false))) else (some false))) else (some false))) else (some false)) else (some false)) else (some false)) else (some false))))) = some r := H
    have A9 := Aside0.mk A90
    clear A90
    replace H := Option.bind_eq_some_iff.mp H
    obtain ⟨⟨t418, t419⟩, A100, H⟩ := H
    replace H : ((apply_Turn.f kj4 t414).bind fun t422 => ((apply_Apply.f l1 t422).bind fun bt425 => (if t413 = true then (if t415 = 0 then (if t419 = 0 then (if bt425.2 = 0 then ((grapevineref01_Texts.f kj4 t418 l1).bind fun t429 => (if t429 = true then ((grapevineref01_Texts.f kj4 bt425.1 l0).bind fun t430 => (if t430 = true then ((apply_Right.f kj4 t414).bind fun t431 => (if t431 = true then ((apply_Right.f kj4 t422).bind fun t432 => (if t432 = true then ((apply_Turn.f kj4 t422).bind fun t433 => ((grapevineref05_Same.f kj4 t433 t414).bind fun t436 => (some t436))) else (some false))) else (some false))) else (some false))) else (some false))) else (some false)) else (some false)) else (some false)) else (some false)))) = some r := H
    have A10 := Aside0.mk A100
    clear A100
    replace H := Option.bind_eq_some_iff.mp H
    obtain ⟨t422, A110, H⟩ := H
    replace H : ((apply_Apply.f l1 t422).bind fun bt425 => (if t413 = true then (if t415 = 0 then (if t419 = 0 then (if bt425.2 = 0 then ((grapevineref01_Texts.f kj4 t418 l1).bind fun t429 => (if t429 = true then ((grapevineref01_Texts.f kj4 bt425.1 l0).bind fun t430 => (if t430 = true then ((apply_Right.f kj4 t414).bind fun t431 => (if t431 = true then ((apply_Right.f kj4 t422).bind fun t432 => (if t432 = true then ((apply_Turn.f kj4 t422).bind fun t433 => ((grapevineref05_Same.f kj4 t433 t414).bind fun t436 => (some t436))) else (some false))) else (some false))) else (some false))) else (some false))) else (some false)) else (some false)) else (some false)) else (some false))) = some r := H
    have A11 := Aside0.mk A110
    clear A110
    replace H := Option.bind_eq_some_iff.mp H
    obtain ⟨⟨t425, t426⟩, A120, H⟩ := H
    replace H : (if t413 = true then (if t415 = 0 then (if t419 = 0 then (if t426 = 0 then ((grapevineref01_Texts.f kj4 t418 l1).bind fun t429 => (if t429 = true then ((grapevineref01_Texts.f kj4 t425 l0).bind fun t430 => (if t430 = true then ((apply_Right.f kj4 t414).bind fun t431 => (if t431 = true then ((apply_Right.f kj4 t422).bind fun t432 => (if t432 = true then ((apply_Turn.f kj4 t422).bind fun t433 => ((grapevineref05_Same.f kj4 t433 t414).bind fun t436 => (some t436))) else (some false))) else (some false))) else (some false))) else (some false))) else (some false)) else (some false)) else (some false)) else (some false)) = some r := H
    have A12 := Aside0.mk A120
    clear A120
    by_cases c13 : t413 = true
    ·subst c13
     have H1 : (if t415 = 0 then (if t419 = 0 then (if t426 = 0 then ((grapevineref01_Texts.f kj4 t418 l1).bind fun t429 => (if t429 = true then ((grapevineref01_Texts.f kj4 t425 l0).bind fun t430 => (if t430 = true then ((apply_Right.f kj4 t414).bind fun t431 => (if t431 = true then ((apply_Right.f kj4 t422).bind fun t432 => (if t432 = true then ((apply_Turn.f kj4 t422).bind fun t433 => ((grapevineref05_Same.f kj4 t433 t414).bind fun t436 => (some t436))) else (some false))) else (some false))) else (some false))) else (some false))) else (some false)) else (some false)) else (some false)) = some r := by rw [if_pos rfl] at H; exact H
     clear H
     have H := H1
     clear H1
     by_cases c14 : t415 = 0
     ·rw [if_pos c14] at H
      have c14b0 : (t415 == 0) = true := beq_iff_eq.mpr c14
      have c14b1 : (t415 != 0) = false := bne_eq_false_iff_eq.mpr c14
      clear c14
      by_cases c15 : t419 = 0
      ·rw [if_pos c15] at H
       have c15b0 : (t419 == 0) = true := beq_iff_eq.mpr c15
       have c15b1 : (t419 != 0) = false := bne_eq_false_iff_eq.mpr c15
       clear c15
       by_cases c16 : t426 = 0
       ·rw [if_pos c16] at H
        have c16b0 : (t426 == 0) = true := beq_iff_eq.mpr c16
        have c16b1 : (t426 != 0) = false := bne_eq_false_iff_eq.mpr c16
        clear c16
        replace H := Option.bind_eq_some_iff.mp H
        obtain ⟨t429, A170, H⟩ := H
        replace H : (if t429 = true then ((grapevineref01_Texts.f kj4 t425 l0).bind fun t430 => (if t430 = true then ((apply_Right.f kj4 t414).bind fun t431 => (if t431 = true then ((apply_Right.f kj4 t422).bind fun t432 => (if t432 = true then ((apply_Turn.f kj4 t422).bind fun t433 => ((grapevineref05_Same.f kj4 t433 t414).bind fun t436 => (some t436))) else (some false))) else (some false))) else (some false))) else (some false)) = some r := H
        have A17 := Aside0.mk A170
        clear A170
        by_cases c18 : t429 = true
        ·subst c18
         have H1 : ((grapevineref01_Texts.f kj4 t425 l0).bind fun t430 => (if t430 = true then ((apply_Right.f kj4 t414).bind fun t431 => (if t431 = true then ((apply_Right.f kj4 t422).bind fun t432 => (if t432 = true then ((apply_Turn.f kj4 t422).bind fun t433 => ((grapevineref05_Same.f kj4 t433 t414).bind fun t436 => (some t436))) else (some false))) else (some false))) else (some false))) = some r := by rw [if_pos rfl] at H; exact H
         clear H
         have H := H1
         clear H1
         replace H := Option.bind_eq_some_iff.mp H
         obtain ⟨t430, A190, H⟩ := H
         replace H : (if t430 = true then ((apply_Right.f kj4 t414).bind fun t431 => (if t431 = true then ((apply_Right.f kj4 t422).bind fun t432 => (if t432 = true then ((apply_Turn.f kj4 t422).bind fun t433 => ((grapevineref05_Same.f kj4 t433 t414).bind fun t436 => (some t436))) else (some false))) else (some false))) else (some false)) = some r := H
         have A19 := Aside0.mk A190
         clear A190
         by_cases c20 : t430 = true
         ·subst c20
          have H1 : ((apply_Right.f kj4 t414).bind fun t431 => (if t431 = true then ((apply_Right.f kj4 t422).bind fun t432 => (if t432 = true then ((apply_Turn.f kj4 t422).bind fun t433 => ((grapevineref05_Same.f kj4 t433 t414).bind fun t436 => (some t436))) else (some false))) else (some false))) = some r := by rw [if_pos rfl] at H; exact H
          clear H
          have H := H1
          clear H1
          replace H := Option.bind_eq_some_iff.mp H
          obtain ⟨t431, A210, H⟩ := H
          replace H : (if t431 = true then ((apply_Right.f kj4 t422).bind fun t432 => (if t432 = true then ((apply_Turn.f kj4 t422).bind fun t433 => ((grapevineref05_Same.f kj4 t433 t414).bind fun t436 => (some t436))) else (some false))) else (some false)) = some r := H
          have A21 := Aside0.mk A210
          clear A210
          by_cases c22 : t431 = true
          ·subst c22
           have H1 : ((apply_Right.f kj4 t422).bind fun t432 => (if t432 = true then ((apply_Turn.f kj4 t422).bind fun t433 => ((grapevineref05_Same.f kj4 t433 t414).bind fun t436 => (some t436))) else (some false))) = some r := by rw [if_pos rfl] at H; exact H
           clear H
           have H := H1
           clear H1
           replace H := Option.bind_eq_some_iff.mp H
           obtain ⟨t432, A230, H⟩ := H
           replace H : (if t432 = true then ((apply_Turn.f kj4 t422).bind fun t433 => ((grapevineref05_Same.f kj4 t433 t414).bind fun t436 => (some t436))) else (some false)) = some r := H
           have A23 := Aside0.mk A230
           clear A230
           by_cases c24 : t432 = true
           ·subst c24
            have H1 : ((apply_Turn.f kj4 t422).bind fun t433 => ((grapevineref05_Same.f kj4 t433 t414).bind fun t436 => (some t436))) = some r := by rw [if_pos rfl] at H; exact H
            clear H
            have H := H1
            clear H1
            replace H := Option.bind_eq_some_iff.mp H
            obtain ⟨t433, A250, H⟩ := H
            replace H : ((grapevineref05_Same.f kj4 t433 t414).bind fun t436 => (some t436)) = some r := H
            have A25 := Aside0.mk A250
            clear A250
            replace H := Option.bind_eq_some_iff.mp H
            obtain ⟨t436, A260, H⟩ := H
            replace H : (some t436) = some r := H
            have A26 := Aside0.mk A260
            clear A260
            obtain rfl := Option.some.inj H
            go_wp2_with (first | ((with_reducible refine gate_callee (f := 20) rfl ?_); refine goesL_ (some 31) rfl rfl Try.func20 (by kernel_rfl) rfl #[.slice A0 l0.length c0, .slice A1 l1.length c1, .int .i64 (wrap64 (Int.tmod a2 51))] rfl (by (try simp only [List.map_toArray, List.map_cons, List.map_nil]); first | done | rfl | (simp only [List.length_drop, List.length_take]; rfl)) ?_; (with_reducible refine (apply_Between.calls kj4 _ _ l0 _ _ l1 (wrap64 (Int.tmod a2 51)) t414 t415 _ ?side1 ?side2 ?side3 ?side4 A9.out).mono ?_); (case side1 => repeat (first | exact (Kd.C_below HR0.out HB.out) | (with_reducible refine Kd.C_alloc ?_ _) | (with_reducible refine Kd.C_drewN ?_ _) | (with_reducible refine Kd.C_drew ?_))); (case side2 => exact HC0.out); (case side3 => repeat (first | exact (Kd.C_below HR1.out HB.out) | (with_reducible refine Kd.C_alloc ?_ _) | (with_reducible refine Kd.C_drewN ?_ _) | (with_reducible refine Kd.C_drew ?_))); (case side4 => exact HC1.out); rintro e w27 ⟨v416, rfl, ho0, hb⟩; refine ⟨_, rfl, ?_⟩; have n0_ := Aside0.mk (Kd.S_lower ho0 (below_size (by repeat (first | (with_reducible first | exact HB.out | apply below_alloc | apply pw_below_drewN | apply below_drew1) | exact HB.out)))); have n1_ := Aside0.mk (below_step (by repeat (first | (with_reducible first | exact HB.out | apply below_alloc | apply pw_below_drewN | apply below_drew1) | exact HB.out)) hb); clear HB; have HO417 := n0_; have HB := n1_; clear n0_ n1_; (try clear hb); (try clear hb2); (try clear hk); (try clear hi); (try clear ho0); obtain ⟨Ao28, co28, eo28⟩ := Kd.S_slice HO417.out; subst eo28) | ((with_reducible refine gate_callee (f := 12) rfl ?_); refine goesL_ (some 37) rfl rfl Try.func12 (by kernel_rfl) rfl #[.slice A0 l0.length c0, .slice Ao28 t414.length co28] rfl (by (try simp only [List.map_toArray, List.map_cons, List.map_nil]); first | done | rfl | (simp only [List.length_drop, List.length_take]; rfl)) ?_; (with_reducible refine (apply_Apply.calls _ _ l0 _ _ t414 t418 t419 _ ?side1 ?side2 ?side3 ?side4 A10.out).mono ?_); (case side1 => repeat (first | exact (Kd.C_below HR0.out HB.out) | (with_reducible refine Kd.C_alloc ?_ _) | (with_reducible refine Kd.C_drewN ?_ _) | (with_reducible refine Kd.C_drew ?_))); (case side2 => exact HC0.out); (case side3 => repeat (first | exact (Kd.S_reads' HO417.out).2.2 | (with_reducible refine Kd.C_alloc ?_ _) | (with_reducible refine Kd.C_drewN ?_ _) | (with_reducible refine Kd.C_drew ?_))); (case side4 => exact (Kd.S_reads' HO417.out).2.1); rintro e w29 ⟨v420, rfl, ho0, hb⟩; refine ⟨_, rfl, ?_⟩; have n0_ := Aside0.mk (Kd.S_elder' (by (with_reducible repeat (first | apply Kd.S_alloc | apply Kd.S_drewN | apply Kd.S_drew)); exact HO417.out) (Kd.R_base ho0) hb); have n1_ := Aside0.mk (Kd.R_lower ho0 (below_size (by repeat (first | (with_reducible first | exact HB.out | apply below_alloc | apply pw_below_drewN | apply below_drew1) | exact HB.out)))); have n2_ := Aside0.mk (below_step (by repeat (first | (with_reducible first | exact HB.out | apply below_alloc | apply pw_below_drewN | apply below_drew1) | exact HB.out)) hb); clear HO417; clear HB; have HO417 := n0_; have HO421 := n1_; have HB := n2_; clear n0_ n1_ n2_; (try clear hb); (try clear hb2); (try clear hk); (try clear hi); (try clear ho0)) | ((with_reducible refine gate_callee (f := 18) rfl ?_); refine goesL_ (some 41) rfl rfl Try.func18 (by kernel_rfl) rfl #[.slice Ao28 t414.length co28] rfl (by (try simp only [List.map_toArray, List.map_cons, List.map_nil]); first | done | rfl | (simp only [List.length_drop, List.length_take]; rfl)) ?_; (with_reducible refine (apply_Turn.calls kj4 _ _ t414 t422 _ ?side1 ?side2 A11.out).mono ?_); (case side1 => repeat (first | exact (Kd.S_reads' HO417.out).2.2 | (with_reducible refine Kd.C_alloc ?_ _) | (with_reducible refine Kd.C_drewN ?_ _) | (with_reducible refine Kd.C_drew ?_))); (case side2 => exact (Kd.S_reads' HO417.out).2.1); rintro e w30 ⟨v423, rfl, ho0, hb⟩; refine ⟨_, rfl, ?_⟩; have n0_ := Aside0.mk (Kd.S_elder' (by (with_reducible repeat (first | apply Kd.S_alloc | apply Kd.S_drewN | apply Kd.S_drew)); exact HO417.out) (Kd.S_base ho0) hb); have n1_ := Aside0.mk (Kd.R_below (by (with_reducible repeat (first | apply Kd.R_alloc | apply Kd.R_drewN | apply Kd.R_drew)); exact HO421.out) hb); have n2_ := Aside0.mk (Kd.S_lower (Kd.S_new' (Kd.S_new' ho0 (Kd.S_lt (by (with_reducible repeat (first | apply Kd.S_alloc | apply Kd.S_drewN | apply Kd.S_drew)); exact HO417.out))) (Kd.R_lt (by (with_reducible repeat (first | apply Kd.R_alloc | apply Kd.R_drewN | apply Kd.R_drew)); exact HO421.out))) (below_size (by repeat (first | (with_reducible first | exact HB.out | apply below_alloc | apply pw_below_drewN | apply below_drew1) | exact HB.out)))); have n3_ := Aside0.mk (below_step (by repeat (first | (with_reducible first | exact HB.out | apply below_alloc | apply pw_below_drewN | apply below_drew1) | exact HB.out)) hb); clear HO417; clear HO421; clear HB; have HO417 := n0_; have HO421 := n1_; have HO424 := n2_; have HB := n3_; clear n0_ n1_ n2_ n3_; (try clear hb); (try clear hb2); (try clear hk); (try clear hi); (try clear ho0); obtain ⟨Ao31, co31, eo31⟩ := Kd.S_slice HO424.out; subst eo31) | ((with_reducible refine gate_callee (f := 12) rfl ?_); refine goesL_ (some 45) rfl rfl Try.func12 (by kernel_rfl) rfl #[.slice A1 l1.length c1, .slice Ao31 t422.length co31] rfl (by (try simp only [List.map_toArray, List.map_cons, List.map_nil]); first | done | rfl | (simp only [List.length_drop, List.length_take]; rfl)) ?_; (with_reducible refine (apply_Apply.calls _ _ l1 _ _ t422 t425 t426 _ ?side1 ?side2 ?side3 ?side4 A12.out).mono ?_); (case side1 => repeat (first | exact (Kd.C_below HR1.out HB.out) | (with_reducible refine Kd.C_alloc ?_ _) | (with_reducible refine Kd.C_drewN ?_ _) | (with_reducible refine Kd.C_drew ?_))); (case side2 => exact HC1.out); (case side3 => repeat (first | exact (Kd.S_reads' HO424.out).2.2 | (with_reducible refine Kd.C_alloc ?_ _) | (with_reducible refine Kd.C_drewN ?_ _) | (with_reducible refine Kd.C_drew ?_))); (case side4 => exact (Kd.S_reads' HO424.out).2.1); rintro e w32 ⟨v427, rfl, ho0, hb⟩; refine ⟨_, rfl, ?_⟩; have n0_ := Aside0.mk (Kd.S_elder' (by (with_reducible repeat (first | apply Kd.S_alloc | apply Kd.S_drewN | apply Kd.S_drew)); exact HO417.out) (Kd.R_base ho0) hb); have n1_ := Aside0.mk (Kd.R_elder' (by (with_reducible repeat (first | apply Kd.R_alloc | apply Kd.R_drewN | apply Kd.R_drew)); exact HO421.out) (Kd.R_base ho0) hb); have n2_ := Aside0.mk (Kd.S_elder' (by (with_reducible repeat (first | apply Kd.S_alloc | apply Kd.S_drewN | apply Kd.S_drew)); exact HO424.out) (Kd.R_base ho0) hb); have n3_ := Aside0.mk (Kd.R_lower (Kd.R_new' ho0 (Kd.R_lt (by (with_reducible repeat (first | apply Kd.R_alloc | apply Kd.R_drewN | apply Kd.R_drew)); exact HO421.out))) (below_size (by repeat (first | (with_reducible first | exact HB.out | apply below_alloc | apply pw_below_drewN | apply below_drew1) | exact HB.out)))); have n4_ := Aside0.mk (below_step (by repeat (first | (with_reducible first | exact HB.out | apply below_alloc | apply pw_below_drewN | apply below_drew1) | exact HB.out)) hb); clear HO417; clear HO421; clear HO424; clear HB; have HO417 := n0_; have HO421 := n1_; have HO424 := n2_; have HO428 := n3_; have HB := n4_; clear n0_ n1_ n2_ n3_ n4_; (try clear hb); (try clear hb2); (try clear hk); (try clear hi); (try clear ho0); obtain ⟨Ao33, co33, eo33⟩ := Kd.R_slice HO421.out; subst eo33) | (go_at_call 14; (with_reducible refine (grapevineref01_Texts.calls kj4 _ _ t418 _ _ l1 true _ ?side1 ?side2 ?side3 ?side4 A17.out).mono ?_); (case side1 => repeat (first | exact (Kd.R_reads' HO421.out).2.2 | (with_reducible refine Kd.C_alloc ?_ _) | (with_reducible refine Kd.C_drewN ?_ _) | (with_reducible refine Kd.C_drew ?_))); (case side2 => exact (Kd.R_reads' HO421.out).2.1); (case side3 => repeat (first | exact (Kd.C_below HR1.out HB.out) | (with_reducible refine Kd.C_alloc ?_ _) | (with_reducible refine Kd.C_drewN ?_ _) | (with_reducible refine Kd.C_drew ?_))); (case side4 => exact HC1.out); rintro e w' ⟨rfl, ⟨nd, rfl⟩⟩; obtain ⟨Ao34, co34, eo34⟩ := Kd.R_slice HO428.out; subst eo34) | (go_at_call 14; (with_reducible refine (grapevineref01_Texts.calls kj4 _ _ t425 _ _ l0 true _ ?side1 ?side2 ?side3 ?side4 A19.out).mono ?_); (case side1 => repeat (first | exact (Kd.R_reads' HO428.out).2.2 | (with_reducible refine Kd.C_alloc ?_ _) | (with_reducible refine Kd.C_drewN ?_ _) | (with_reducible refine Kd.C_drew ?_))); (case side2 => exact (Kd.R_reads' HO428.out).2.1); (case side3 => repeat (first | exact (Kd.C_below HR0.out (by repeat (first | (with_reducible first | exact HB.out | apply below_alloc | apply pw_below_drewN | apply below_drew1) | exact HB.out))) | (with_reducible refine Kd.C_alloc ?_ _) | (with_reducible refine Kd.C_drewN ?_ _) | (with_reducible refine Kd.C_drew ?_))); (case side4 => exact HC0.out); rintro e w' ⟨rfl, ⟨nd, rfl⟩⟩) | (go_at_call 15; (with_reducible refine (apply_Right.calls kj4 _ _ t414 true _ ?side1 ?side2 A21.out).mono ?_); (case side1 => repeat (first | exact (Kd.S_reads' HO417.out).2.2 | (with_reducible refine Kd.C_alloc ?_ _) | (with_reducible refine Kd.C_drewN ?_ _) | (with_reducible refine Kd.C_drew ?_))); (case side2 => exact (Kd.S_reads' HO417.out).2.1); rintro e w35 ⟨rfl, hb⟩; have n0_ := Aside0.mk (Kd.S_below (by (with_reducible repeat (first | apply Kd.S_alloc | apply Kd.S_drewN | apply Kd.S_drew)); exact HO417.out) hb); have n1_ := Aside0.mk (Kd.R_below (by (with_reducible repeat (first | apply Kd.R_alloc | apply Kd.R_drewN | apply Kd.R_drew)); exact HO421.out) hb); have n2_ := Aside0.mk (Kd.S_below (by (with_reducible repeat (first | apply Kd.S_alloc | apply Kd.S_drewN | apply Kd.S_drew)); exact HO424.out) hb); have n3_ := Aside0.mk (Kd.R_below (by (with_reducible repeat (first | apply Kd.R_alloc | apply Kd.R_drewN | apply Kd.R_drew)); exact HO428.out) hb); have n4_ := Aside0.mk (below_step (by repeat (first | (with_reducible first | exact HB.out | apply below_alloc | apply pw_below_drewN | apply below_drew1) | exact HB.out)) hb); clear HO417; clear HO421; clear HO424; clear HO428; clear HB; have HO417 := n0_; have HO421 := n1_; have HO424 := n2_; have HO428 := n3_; have HB := n4_; clear n0_ n1_ n2_ n3_ n4_; (try clear hb); (try clear hb2); (try clear hk); (try clear hi)) | (go_at_call 15; (with_reducible refine (apply_Right.calls kj4 _ _ t422 true _ ?side1 ?side2 A23.out).mono ?_); (case side1 => repeat (first | exact (Kd.S_reads' HO424.out).2.2 | (with_reducible refine Kd.C_alloc ?_ _) | (with_reducible refine Kd.C_drewN ?_ _) | (with_reducible refine Kd.C_drew ?_))); (case side2 => exact (Kd.S_reads' HO424.out).2.1); rintro e w36 ⟨rfl, hb⟩; have n0_ := Aside0.mk (Kd.S_below (by (with_reducible repeat (first | apply Kd.S_alloc | apply Kd.S_drewN | apply Kd.S_drew)); exact HO417.out) hb); have n1_ := Aside0.mk (Kd.R_below (by (with_reducible repeat (first | apply Kd.R_alloc | apply Kd.R_drewN | apply Kd.R_drew)); exact HO421.out) hb); have n2_ := Aside0.mk (Kd.S_below (by (with_reducible repeat (first | apply Kd.S_alloc | apply Kd.S_drewN | apply Kd.S_drew)); exact HO424.out) hb); have n3_ := Aside0.mk (Kd.R_below (by (with_reducible repeat (first | apply Kd.R_alloc | apply Kd.R_drewN | apply Kd.R_drew)); exact HO428.out) hb); have n4_ := Aside0.mk (below_step (by repeat (first | (with_reducible first | exact HB.out | apply below_alloc | apply pw_below_drewN | apply below_drew1) | exact HB.out)) hb); clear HO417; clear HO421; clear HO424; clear HO428; clear HB; have HO417 := n0_; have HO421 := n1_; have HO424 := n2_; have HO428 := n3_; have HB := n4_; clear n0_ n1_ n2_ n3_ n4_; (try clear hb); (try clear hb2); (try clear hk); (try clear hi)) | (go_at_call 18; (with_reducible refine (apply_Turn.calls kj4 _ _ t422 t433 _ ?side1 ?side2 A25.out).mono ?_); (case side1 => repeat (first | exact (Kd.S_reads' HO424.out).2.2 | (with_reducible refine Kd.C_alloc ?_ _) | (with_reducible refine Kd.C_drewN ?_ _) | (with_reducible refine Kd.C_drew ?_))); (case side2 => exact (Kd.S_reads' HO424.out).2.1); rintro e w37 ⟨v434, rfl, ho0, hb⟩; have n0_ := Aside0.mk (Kd.S_elder' (by (with_reducible repeat (first | apply Kd.S_alloc | apply Kd.S_drewN | apply Kd.S_drew)); exact HO417.out) (Kd.S_base ho0) hb); have n1_ := Aside0.mk (Kd.R_below (by (with_reducible repeat (first | apply Kd.R_alloc | apply Kd.R_drewN | apply Kd.R_drew)); exact HO421.out) hb); have n2_ := Aside0.mk (Kd.S_elder' (by (with_reducible repeat (first | apply Kd.S_alloc | apply Kd.S_drewN | apply Kd.S_drew)); exact HO424.out) (Kd.S_base ho0) hb); have n3_ := Aside0.mk (Kd.R_below (by (with_reducible repeat (first | apply Kd.R_alloc | apply Kd.R_drewN | apply Kd.R_drew)); exact HO428.out) hb); have n4_ := Aside0.mk (Kd.S_lower (Kd.S_new' (Kd.S_new' (Kd.S_new' (Kd.S_new' ho0 (Kd.S_lt (by (with_reducible repeat (first | apply Kd.S_alloc | apply Kd.S_drewN | apply Kd.S_drew)); exact HO417.out))) (Kd.R_lt (by (with_reducible repeat (first | apply Kd.R_alloc | apply Kd.R_drewN | apply Kd.R_drew)); exact HO421.out))) (Kd.S_lt (by (with_reducible repeat (first | apply Kd.S_alloc | apply Kd.S_drewN | apply Kd.S_drew)); exact HO424.out))) (Kd.R_lt (by (with_reducible repeat (first | apply Kd.R_alloc | apply Kd.R_drewN | apply Kd.R_drew)); exact HO428.out))) (below_size (by repeat (first | (with_reducible first | exact HB.out | apply below_alloc | apply pw_below_drewN | apply below_drew1) | exact HB.out)))); have n5_ := Aside0.mk (below_step (by repeat (first | (with_reducible first | exact HB.out | apply below_alloc | apply pw_below_drewN | apply below_drew1) | exact HB.out)) hb); clear HO417; clear HO421; clear HO424; clear HO428; clear HB; have HO417 := n0_; have HO421 := n1_; have HO424 := n2_; have HO428 := n3_; have HO435 := n4_; have HB := n5_; clear n0_ n1_ n2_ n3_ n4_ n5_; (try clear hb); (try clear hb2); (try clear hk); (try clear hi); (try clear ho0); obtain ⟨Ao38, co38, eo38⟩ := Kd.S_slice HO435.out; subst eo38) | (go_at_call 17; (with_reducible refine (grapevineref05_Same.calls kj4 _ _ t433 _ _ t414 t436 _ ?side1 ?side2 ?side3 ?side4 A26.out).mono ?_); (case side1 => repeat (first | exact (Kd.S_reads' HO435.out).2.2 | (with_reducible refine Kd.C_alloc ?_ _) | (with_reducible refine Kd.C_drewN ?_ _) | (with_reducible refine Kd.C_drew ?_))); (case side2 => exact (Kd.S_reads' HO435.out).2.1); (case side3 => repeat (first | exact (Kd.S_reads' HO417.out).2.2 | (with_reducible refine Kd.C_alloc ?_ _) | (with_reducible refine Kd.C_drewN ?_ _) | (with_reducible refine Kd.C_drew ?_))); (case side4 => exact (Kd.S_reads' HO417.out).2.1); rintro e w39 ⟨rfl, hb⟩; have n0_ := Aside0.mk (Kd.S_below (by (with_reducible repeat (first | apply Kd.S_alloc | apply Kd.S_drewN | apply Kd.S_drew)); exact HO417.out) hb); have n1_ := Aside0.mk (Kd.R_below (by (with_reducible repeat (first | apply Kd.R_alloc | apply Kd.R_drewN | apply Kd.R_drew)); exact HO421.out) hb); have n2_ := Aside0.mk (Kd.S_below (by (with_reducible repeat (first | apply Kd.S_alloc | apply Kd.S_drewN | apply Kd.S_drew)); exact HO424.out) hb); have n3_ := Aside0.mk (Kd.R_below (by (with_reducible repeat (first | apply Kd.R_alloc | apply Kd.R_drewN | apply Kd.R_drew)); exact HO428.out) hb); have n4_ := Aside0.mk (Kd.S_below (by (with_reducible repeat (first | apply Kd.S_alloc | apply Kd.S_drewN | apply Kd.S_drew)); exact HO435.out) hb); have n5_ := Aside0.mk (below_step (by repeat (first | (with_reducible first | exact HB.out | apply below_alloc | apply pw_below_drewN | apply below_drew1) | exact HB.out)) hb); clear HO417; clear HO421; clear HO424; clear HO428; clear HO435; clear HB; have HO417 := n0_; have HO421 := n1_; have HO424 := n2_; have HO428 := n3_; have HO435 := n4_; have HB := n5_; clear n0_ n1_ n2_ n3_ n4_ n5_; (try clear hb); (try clear hb2); (try clear hk); (try clear hi)))
            go_ret
            exact ⟨by first | rfl | (simp [errW_none, errW_some] <;> rfl) | (simp [*, errW_none, errW_some] <;> rfl), by repeat (first | (with_reducible first | exact HB.out | apply below_alloc | apply pw_below_drewN | apply below_drew1) | exact HB.out)⟩
           ·replace c24 := Bool.eq_false_iff.mpr c24
            subst c24
            have H1 : (some false) = some r := by rw [if_neg (show ¬ (false = true) by decide)] at H; exact H
            clear H
            have H := H1
            clear H1
            exact absurd (H.trans (congrArg some hrt_.out)) (by simp)
          ·replace c22 := Bool.eq_false_iff.mpr c22
           subst c22
           have H1 : (some false) = some r := by rw [if_neg (show ¬ (false = true) by decide)] at H; exact H
           clear H
           have H := H1
           clear H1
           exact absurd (H.trans (congrArg some hrt_.out)) (by simp)
         ·replace c20 := Bool.eq_false_iff.mpr c20
          subst c20
          have H1 : (some false) = some r := by rw [if_neg (show ¬ (false = true) by decide)] at H; exact H
          clear H
          have H := H1
          clear H1
          exact absurd (H.trans (congrArg some hrt_.out)) (by simp)
        ·replace c18 := Bool.eq_false_iff.mpr c18
         subst c18
         have H1 : (some false) = some r := by rw [if_neg (show ¬ (false = true) by decide)] at H; exact H
         clear H
         have H := H1
         clear H1
         exact absurd (H.trans (congrArg some hrt_.out)) (by simp)
       ·rw [if_neg c16] at H
        have c16b0 : (t426 == 0) = false := beq_eq_false_iff_ne.mpr c16
        have c16b1 : (t426 != 0) = true := bne_iff_ne.mpr c16
        exact absurd (H.trans (congrArg some hrt_.out)) (by simp)
      ·rw [if_neg c15] at H
       have c15b0 : (t419 == 0) = false := beq_eq_false_iff_ne.mpr c15
       have c15b1 : (t419 != 0) = true := bne_iff_ne.mpr c15
       exact absurd (H.trans (congrArg some hrt_.out)) (by simp)
     ·rw [if_neg c14] at H
      have c14b0 : (t415 == 0) = false := beq_eq_false_iff_ne.mpr c14
      have c14b1 : (t415 != 0) = true := bne_iff_ne.mpr c14
      exact absurd (H.trans (congrArg some hrt_.out)) (by simp)
    ·replace c13 := Bool.eq_false_iff.mpr c13
     subst c13
     have H1 : (some false) = some r := by rw [if_neg (show ¬ (false = true) by decide)] at H; exact H
     clear H
     have H := H1
     clear H1
     exact absurd (H.trans (congrArg some hrt_.out)) (by simp)

end Go.Proofs.Ytoaijganmfijmaa.Pr
-- shrunk
/-
The law ApplyBack answers true: the plain part.
-/
namespace Go.Proofs.Ytoaijganmfijmaa.Pr
open Go.RowKit Go.Proofs.YtoaijganmfijmaaW.PrintWords Go.Proofs.YtoaijganmfijmaaW.PrintLast Go.Proofs.YtoaijganmfijmaaW.PrintMore
set_option linter.unusedVariables false
set_option linter.unusedSimpArgs false
theorem ApplyBack_pure (a b : List ByteArray) (a2 : Int) (ya : a.length * 16 ≤ 140737488351232) (za : ∀ s ∈ a, s.size ≤ 140737488351232) (yb : b.length * 16 ≤ 140737488351232) (zb : ∀ s ∈ b, s.size ≤ 140737488351232) (w2 : (Lit.int .u8 a2).wf = true) :
  ∃ k, grapevinelaw07_ApplyBack.f k a b a2 = some true := by
 refine Ev.rounds ?_
 unfold grapevinelaw07_ApplyBack.f
 have j0t : Ev (fun k => grapevinelaw07_ApplyBack.j0 k a b a2 true true) true := by
  refine Ev.step (fun _ => grapevinelaw07_ApplyBack.j0.eq_2 ..) ?_
  exact Ev.now _
 refine Ev.bind (Ev.none_of fun _ => rfl) ?_
 by_cases c1 : (a.length : Int) > 40
 ·simp only [if_pos c1]
  exact j0t
 simp only [if_neg c1]
 by_cases c2 : (b.length : Int) > 40
 ·rw [decide_eq_true c2]
  exact j0t
 rw [decide_eq_false c2]
 have hL := law_between a b (by omega) (by omega) zb
 have hm := mod_in (x := a2) (n := 51) (u8_nn w2) (by omega) (by omega)
 obtain ⟨ar, har⟩ : ∃ ar, ar = a2 % 51 := ⟨_, rfl⟩
 rw [← har] at hm
 have hT := between_takes a b ar hm.2.1 hL
 have hmost := makeH_most a ar (between a b)
 have hlen := hL.len
 obtain ⟨l, hl⟩ : ∃ l, l = makeH a ar 0 (between a b) := ⟨_, rfl⟩
 have hbe := Between_ev a b ar (by omega) (by omega) hm.2.1 (by omega) za hL
 rw [← hl] at hT hmost hbe
 obtain ⟨m, hm1, hm2⟩ := takes_turn a b l 0 0 hT
 have hml := turned_len hm1
 have hS := takes_small hT (by omega) (by omega) (by omega)
 have hS2 := takes_small hm2 (by omega) (by omega) (by omega)
 have hB := takes_big hT (by omega) (by omega) za zb
 have hB2 := takes_big hm2 (by omega) (by omega) zb za
 have hR : rightP 0 0 l = true := by simpa using takes_right a b l 0 0 hT
 have hR2 : rightP 0 0 m = true := by simpa using takes_right b a m 0 0 hm2
 refine Ev.step (fun _ => grapevinelaw07_ApplyBack.j0.eq_2 ..) ?_
 simp only [Bool.false_eq_true, if_false, if_true]
 rw [hm.1]
 refine Ev.bind hbe ?_
 refine Ev.bind (Ev.none_of fun _ => (apply_some hS).trans (congrArg some (takes_applyP hT))) ?_
 refine Ev.bind (ATurn_ev hS hB hR hm1) ?_
 refine Ev.bind (Ev.none_of fun _ => (apply_some hS2).trans (congrArg some (takes_applyP hm2))) ?_
 simp only [if_true]
 have ht := Texts_ev b b (by omega)
 rw [decide_eq_true rfl] at ht
 refine Ev.bind ht ?_
 simp only [if_true]
 have ht2 := Texts_ev a a (by omega)
 rw [decide_eq_true rfl] at ht2
 refine Ev.bind ht2 ?_
 simp only [if_true]
 have hr := ARight_ev hS
 rw [hR] at hr
 refine Ev.bind hr ?_
 simp only [if_true]
 have hr2 := ARight_ev hS2
 rw [hR2] at hr2
 refine Ev.bind hr2 ?_
 simp only [if_true]
 refine Ev.bind (ATurn_ev hS2 hB2 hR2 hm1.back) ?_
 refine Ev.bind (SameH_ev l (by omega) (fun h hh => by have := (hB h hh).1; omega)) ?_
 exact Ev.now _
end Go.Proofs.Ytoaijganmfijmaa.Pr
-- shrunk
/-
Arguments that are slices of whatever kind, opened, with the sizes of all that is read behind them. General: no program in sight.
-/
namespace Go.Proofs.Ytoaijganmfijmaa.Pr
open Go.RowKit Go.Proofs.YtoaijganmfijmaaW.PrintWords Go.Proofs.YtoaijganmfijmaaW.PrintLast Go.Proofs.YtoaijganmfijmaaW.PrintMore
open Go.ChangeShapes Go.WideShapes Go.Deep
def Rz (P : Program) {α : Type} (d : Kd α) (S : α → Prop) (t : TypeId) : Prop :=
 ∀ (H : Type) (enc : TypeId × Value → H) (w : World) (base : Nat) (spare : Nat → Bool) (held : Bool) (fuel : Nat) (cs : List Value) (x : DataW H × List MemPlace),
  DataW.trod enc P w base spare held fuel t cs = some x → (∀ n ∈ x.1.weights P t, n ≤ 140737488351232) → ∃ y, d.K w y cs ∧ S y
theorem Rz.int {P : Program} {t : TypeId} {k : IntKind} (hu : P.underlying t = some (.int k)) : Rz P (Kd.int k) (fun n => (Lit.int k n).wf = true) t := fun H enc w base spare held fuel cs x h _ => by
 obtain ⟨n, rfl, _, hw⟩ := DataW.trod_int hu h
 exact ⟨n, rfl, hw⟩
theorem Rz.string {P : Program} {t : TypeId} (hu : P.underlying t = some .string) : Rz P Kd.string (fun s => s.size ≤ 140737488351232) t := fun H enc w base spare held fuel cs x h hz => by
 obtain ⟨s, rfl, rfl, _⟩ := DataW.trod_string hu h
 refine ⟨s, rfl, ?_⟩
 have := hz s.data.toList.length (by simp [DataW.weights])
 simpa using this
theorem weights_mem_all {H : Type} {P : Program} {e : TypeId} : ∀ {l : List (DataW H)} {d : DataW H}, d ∈ l → ∀ n ∈ d.weights P e, n ∈ DataW.weightsAll P e l
 | c :: l, d, hd, n, hn => by
  simp only [DataW.weightsAll, List.mem_append]
  rcases List.mem_cons.1 hd with rfl | hd
  ·exact Or.inl hn
  ·exact Or.inr (weights_mem_all hd n hn)
theorem Rz.slice {P : Program} {α : Type} {d : Kd α} {S : α → Prop} {t e : TypeId} {B : Nat} (hu : P.underlying t = some (.slice e)) (hc : P.cellsOf e = d.sz) (hB : P.bytesOf e = B) (hd : Rz P d S e) :
  Rz P (Kd.slice e d) (fun xs => xs.length * B ≤ 140737488351232 ∧ ∀ y ∈ xs, S y) t := fun H enc w base spare held fuel cs x h hz => by
 rcases open_slice hu h with ⟨rfl, _⟩ | ⟨a, len, cap, m, n, D, Pl, rfl, hb, hl, hm, hmm, rfl, hx⟩
 ·exact ⟨[], ⟨none, 0, rfl, Nat.le_refl _, rfl, by simp, fun h0 => absurd h0 (Nat.lt_irrefl _)⟩, by simp, by simp⟩
 ·have hlm : len ≤ m := by rw [hmm]; split <;> omega
  have hw0 : len * B ≤ 140737488351232 := by
   have h1 := hz ((((List.range len).map D).length + ((List.range (m - len)).map fun j => D (len + j)).length) * P.bytesOf e) (by simp [DataW.weights, hu])
   rw [hB] at h1
   simp only [List.length_map, List.length_range] at h1
   exact Nat.le_trans (Nat.mul_le_mul_right _ (Nat.le_add_right _ _)) h1
  have hw1 : ∀ i, i < len → ∀ q ∈ (D i).weights P e, q ≤ 140737488351232 := fun i hi q hq => by
   refine hz q ?_
   simp only [DataW.weights, hu, List.mem_cons, List.mem_append]
   exact Or.inr (Or.inl (weights_mem_all (List.mem_map.2 ⟨i, List.mem_range.2 hi, rfl⟩) q hq))
  have key : ∀ k, k ≤ len → ∃ xs : List α, xs.length = k ∧ (∀ y ∈ xs, S y) ∧ ∀ j p, xs[j]? = some p → ∃ c, c.length = d.sz ∧ d.K w p c ∧ ∀ i u, c[i]? = some u → w.cell? (a.add (j * d.sz + i)) = some u := by
   intro k
   induction k with
   | zero => exact fun _ => ⟨[], rfl, by simp, fun j p hj => by simp at hj⟩
   | succ k ih =>
    intro hk
    obtain ⟨xs, hxl, hS, hxs⟩ := ih (by omega)
    obtain ⟨cs', h1, h2⟩ := hx k (by omega)
    obtain ⟨y, hy, hSy⟩ := hd H enc w base spare held n cs' _ h2 (hw1 k (by omega))
    obtain ⟨_, hlen, hcell⟩ := World.cells?_some h1
    refine ⟨xs ++ [y], by simp [hxl], fun z hz => ?_, fun j p hj => ?_⟩
    ·rcases List.mem_append.1 hz with hz | hz
     ·exact hS z hz
     ·rw [List.mem_singleton.1 hz]; exact hSy
    by_cases hjk : j < k
    ·rw [List.getElem?_append_left (by omega)] at hj
     exact hxs j p hj
    ·have hj' : j = k := by
      have : j < (xs ++ [y]).length := by
       rcases Nat.lt_or_ge j (xs ++ [y]).length with h | h
       ·exact h
       ·rw [List.getElem?_eq_none h] at hj; cases hj
      simp [hxl] at this; omega
     subst hj'
     rw [List.getElem?_append_right (by omega), hxl, Nat.sub_self] at hj
     obtain rfl := Option.some.inj hj
     refine ⟨cs', by rw [hlen, hc], hy, fun i u hi => ?_⟩
     have hlt : i < cs'.length := by
      rcases Nat.lt_or_ge i cs'.length with h | h
      ·exact h
      ·rw [List.getElem?_eq_none h] at hi; cases hi
     rw [← hc, ← Deep.add_add, hcell i (by omega), hi]
  obtain ⟨xs, rfl, hS, hxs⟩ := key len (Nat.le_refl _)
  exact ⟨xs, ⟨some a, cap, rfl, hl, rfl, by unfold maxLen at hm; omega, fun _ => ⟨a, rfl, hxs⟩⟩, hw0, hS⟩
inductive RzF (P : Program) : {α : Type} → Kd α → (α → Prop) → Nat → List Field → Prop
 | last {α : Type} {d : Kd α} {S : α → Prop} {f : Field} {off : Nat} : f.offset = off → P.cellsOf f.type = d.sz → Rz P d S f.type → RzF P d S off [f]
 | cons {α β : Type} {a : Kd α} {b : Kd β} {S : α → Prop} {U : β → Prop} {f : Field} {fs : List Field} {off : Nat} : f.offset = off → P.cellsOf f.type = a.sz → Rz P a S f.type → RzF P b U (off + a.sz) fs → RzF P (Kd.pair a b) (fun x => S x.1 ∧ U x.2) off (f :: fs)
theorem RzF.read {P : Program} {H : Type} {enc : TypeId × Value → H} {w : World} {base : Nat} {spare : Nat → Bool} {held : Bool} {cs : List Value} {α : Type} {d : Kd α} {S : α → Prop} {off : Nat} {fs : List Field} (h : RzF P d S off fs) :
  (∀ f ∈ fs, ∃ n x, DataW.trod enc P w base spare held n f.type ((cs.drop f.offset).take (P.cellsOf f.type)) = some x ∧ ∀ q ∈ x.1.weights P f.type, q ≤ 140737488351232) → ∃ y, d.K w y ((cs.drop off).take d.sz) ∧ S y := by
 induction h with
 | last ho hc hr =>
  intro hf
  obtain ⟨n, x, hx, hw⟩ := hf _ (List.mem_singleton.2 rfl)
  rw [ho, hc] at hx
  exact hr H enc w base spare held n _ x hx hw
 | @cons α β a b S U f fs off ho hc hr _ ih =>
  intro hf
  obtain ⟨n, x, hx, hw⟩ := hf _ List.mem_cons_self
  rw [ho, hc] at hx
  obtain ⟨y0, h0, s0⟩ := hr H enc w base spare held n _ x hx hw
  obtain ⟨y1, h1, s1⟩ := ih (fun g hg => hf g (List.mem_cons_of_mem _ hg))
  refine ⟨(y0, y1), ⟨_, _, ?_, h0, h1⟩, s0, s1⟩
  show List.take (a.sz + b.sz) _ = _
  rw [List.take_add, List.drop_drop]
theorem Rz.struct {P : Program} {α : Type} {d : Kd α} {S : α → Prop} {t : TypeId} {fs : Array Field} (hu : P.underlying t = some (.struct fs)) (hc : P.cellsOf t = d.sz) (hf : RzF P d S 0 fs.toList) : Rz P d S t := fun H enc w base spare held fuel cs x h hz => by
 obtain ⟨xs, n, _, rfl, hl, hlen, hx⟩ := DataW.trod_struct hu h
 have h2 := hf.read (enc := enc) (w := w) (base := base) (spare := spare) (held := held) (cs := cs) (fun f hm => by
  obtain ⟨i, hi, he⟩ := List.mem_iff_getElem.1 hm
  have h3 := hx i f (by rw [← he]; simp)
  have hi' : i < xs.length := by rw [hlen]; simpa using hi
  rw [List.getElem?_eq_getElem hi'] at h3
  refine ⟨n, _, h3, fun q hq => hz q ?_⟩
  simp only [DataW.weights, hu]
  refine DataW.weights_mem_each (j := i) (t := f.type) (d := xs[i].1) ?_ ?_ q hq
  ·rw [List.getElem?_map, List.getElem?_eq_getElem hi, he]; rfl
  ·rw [List.getElem?_map, List.getElem?_eq_getElem hi']; rfl)
 rw [List.drop_zero, List.take_of_length_le (by omega)] at h2
 exact h2
theorem Rz.iso {P : Program} {α β : Type} {d : Kd α} {S : α → Prop} {f : β → α} {t : TypeId} (h : Rz P d S t) (g : ∀ y, ∃ x, f x = y) : Rz P (Kd.iso d f) (fun x => S (f x)) t := fun H enc w base spare held fuel cs x hx hz => by
 obtain ⟨y, hy, hs⟩ := h H enc w base spare held fuel cs x hx hz
 obtain ⟨z, rfl⟩ := g y
 exact ⟨z, hy, hs⟩
theorem Rz.mono {P : Program} {α : Type} {d : Kd α} {S S' : α → Prop} {t : TypeId} (h : Rz P d S t) (g : ∀ x, S x → S' x) : Rz P d S' t := fun H enc w base spare held fuel cs x hx hz => by
 obtain ⟨y, hy, hs⟩ := h H enc w base spare held fuel cs x hx hz
 exact ⟨y, hy, g y hs⟩
theorem open_rowz {P : Program} {α : Type} {d : Kd α} {S : α → Prop} {t e : TypeId} {B : Nat} {H : Type} {enc : TypeId × Value → H} {w : World} {r : Reach} {b0 base : Nat} {spare : Nat → Bool} {held : Bool} {v : Value} {x : DataW H} {ps : List MemPlace} {ts : List TypeId} {ds : List (DataW H)} {j : Nat}
  (hsz : (DataW.weightsEach P ts ds).all (· ≤ reachBytes) = true) (ht : ts[j]? = some t) (hdj : ds[j]? = some x)
  (hu : P.underlying t = some (.slice e)) (hc : P.cellsOf e = d.sz) (hB : P.bytesOf e = B) (hd : Rz P d S e) (hval : Value.okWide P w r b0 t v) (h : DataW.Trod enc P w base spare held t v x ps) :
  ∃ (A : Option Addr) (c : Nat) (xs : List α), v = .slice A xs.length c ∧ xs.length ≤ c ∧ d.C w A xs.length xs ∧ xs.length * B ≤ 140737488351232 ∧ ∀ y ∈ xs, S y := by
 obtain ⟨a, len, cap, rfl⟩ := okWide_slice hu hval
 obtain ⟨fuel, hf⟩ := h
 obtain ⟨xs, ⟨A, c, hcs, hl, hC⟩, hb, hS⟩ := Rz.slice hu hc hB hd H enc w base spare held fuel _ _ hf (fun n hn => by
  have := List.all_eq_true.1 hsz _ (DataW.weights_mem_each ht hdj n hn)
  have h2 : n ≤ reachBytes := by simpa using this
  exact h2)
 simp [Value.cells] at hcs
 obtain ⟨rfl, rfl, rfl⟩ := hcs
 exact ⟨_, _, xs, rfl, hl, hC, hb, hS⟩
end Go.Proofs.Ytoaijganmfijmaa.Pr
-- shrunk
/-
The kinds of the lower layers' arguments, with sizes: lists of texts, edits.
-/
namespace Go.Proofs.Ytoaijganmfijmaa.Pr
open Go.RowKit Go.Proofs.YtoaijganmfijmaaW.PrintWords Go.Proofs.YtoaijganmfijmaaW.PrintLast Go.Proofs.YtoaijganmfijmaaW.PrintMore
theorem rz_string : Rz Try.prog Kd.string (fun s => s.size ≤ 140737488351232) 9 := Rz.string (by kernel_rfl)
end Go.Proofs.Ytoaijganmfijmaa.Pr
-- shrunk
