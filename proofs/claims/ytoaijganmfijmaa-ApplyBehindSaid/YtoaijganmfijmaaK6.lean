/-
Several plain texts in one.
-/
import Derived.Test.YtoaijganmfijmaaK0
import Derived.Test.YtoaijganmfijmaaK4
import Derived.Test.YtoaijganmfijmaaK2
import Derived.Test.YtoaijganmfijmaaK3
import Derived.Test.YtoaijganmfijmaaK5
import Derived.Deep.Strs
import Derived.SizedLaws
import Derived.ChangeOld
import Derived.Carry
import Derived.Test.YtoaijganmfijmaaWWords
import Derived.Test.YtoaijganmfijmaaWMore
import Derived.Test.YtoaijganmfijmaaWLast
import Derived.KernelRfl
-- written by a program of this session's (a turned copy of the kit's printer); Lean checks it
namespace Go.Proofs.Ytoaijganmfijmaa.Pr
open Go.RowKit Go.Proofs.YtoaijganmfijmaaW.PrintWords Go.Proofs.YtoaijganmfijmaaW.PrintLast Go.Proofs.YtoaijganmfijmaaW.PrintMore
attribute [local go_sem] max2_int min2_int max_two min_two max_three min_three max_four min_four   -- for this text's walks alone
set_option linter.unusedVariables false
set_option linter.unusedSimpArgs false

def grapevinelaw07_awake0.f (k : Nat)  : Option (Bool) := (some (([(⟨0, 1, 0, 1, (([(⟨#[45, 97]⟩ : ByteArray), (⟨#[43, 98]⟩ : ByteArray)] : List ByteArray))⟩ : S41)] : List (S41)) : List (S41))).bind fun y288 => ((apply_Apply.f (([(⟨#[97]⟩ : ByteArray)] : List ByteArray)) y288).bind fun bt294 => ((apply_Apply.f (([(⟨#[99]⟩ : ByteArray)] : List ByteArray)) y288).bind fun bt301 => ((apply_Between.f k (([(⟨#[97]⟩ : ByteArray)] : List ByteArray)) (([(⟨#[98]⟩ : ByteArray)] : List ByteArray)) 0).bind fun bt311 => (if bt294.2 = 0 then ((grapevineref01_Texts.f k bt294.1 (([(⟨#[98]⟩ : ByteArray)] : List ByteArray))).bind fun t318 => (if t318 = true then (if bt301.2 = 6 then (if bt311.2 = 0 then ((grapevineref05_Same.f k bt311.1 y288).bind fun t319 => (if t319 = true then ((apply_Right.f k y288).bind fun t320 => (if t320 = true then ((apply_Turn.f k y288).bind fun t321 => (some ((t321.length : Int) == 1))) else (some false))) else (some false))) else (some false)) else (some false)) else (some false))) else (some false)))))
theorem grapevinelaw07_awake0.mono : ∀ k, LeO (grapevinelaw07_awake0.f k ) (grapevinelaw07_awake0.f (k + 1) ) := by
 intro  k
 unfold grapevinelaw07_awake0.f
 repeat' first
   | (with_reducible exact apply_Between.mono _ _ _ _)
   | (with_reducible exact apply_Right.mono _ _)
   | (with_reducible exact apply_Turn.mono _ _)
   | (with_reducible exact grapevineref01_Texts.mono _ _ _)
   | (with_reducible exact grapevineref05_Same.mono _ _ _)
   | (with_reducible exact LeO.refl _)
   | (with_reducible exact LeO.none _)
   | (with_reducible refine LeO.ite ?_ ?_)
   | (with_reducible refine LeO.bind ?_ (fun _ => ?_))
   | exact apply_Between.mono _ _ _ _
   | exact apply_Right.mono _ _
   | exact apply_Turn.mono _ _
   | exact grapevineref01_Texts.mono _ _ _
   | exact grapevineref05_Same.mono _ _ _
   | exact LeO.none _
   | refine LeO.ite ?_ ?_
   | refine LeO.bind ?_ (fun _ => ?_)
set_option maxHeartbeats 8000000 in
set_option maxRecDepth 100000 in
theorem grapevinelaw07_awake0.calls (k : Nat)  (r : Bool) (w : World) (hrt_ : Aside0 (r = true)) (h : grapevinelaw07_awake0.f k  = some r) :
  Calls Try.prog 10 #[] w fun e w' => e = .returned (.bool r) ∧ Below w.heap.size w w' := by
 have hu41 := Try.underlying41
 have HB := Aside0.mk (Below.refl w.heap.size w)
 have H : ((some (([(⟨0, 1, 0, 1, (([(⟨#[45, 97]⟩ : ByteArray), (⟨#[43, 98]⟩ : ByteArray)] : List ByteArray))⟩ : S41)] : List (S41)) : List (S41))).bind fun y288 => ((apply_Apply.f (([(⟨#[97]⟩ : ByteArray)] : List ByteArray)) y288).bind fun bt294 => ((apply_Apply.f (([(⟨#[99]⟩ : ByteArray)] : List ByteArray)) y288).bind fun bt301 => ((apply_Between.f k (([(⟨#[97]⟩ : ByteArray)] : List ByteArray)) (([(⟨#[98]⟩ : ByteArray)] : List ByteArray)) 0).bind fun bt311 => (if bt294.2 = 0 then ((grapevineref01_Texts.f k bt294.1 (([(⟨#[98]⟩ : ByteArray)] : List ByteArray))).bind fun t318 => (if t318 = true then (if bt301.2 = 6 then (if bt311.2 = 0 then ((grapevineref05_Same.f k bt311.1 y288).bind fun t319 => (if t319 = true then ((apply_Right.f k y288).bind fun t320 => (if t320 = true then ((apply_Turn.f k y288).bind fun t321 => (some ((t321.length : Int) == 1))) else (some false))) else (some false))) else (some false)) else (some false)) else (some false))) else (some false)))))) = some r := h
 clear h
 obtain ⟨y285, hy285⟩ : ∃ y_ : List ByteArray, y_ = (([(⟨#[45, 97]⟩ : ByteArray), (⟨#[43, 98]⟩ : ByteArray)] : List ByteArray)) := ⟨_, rfl⟩
 replace H : ((some (([(⟨0, 1, 0, 1, y285⟩ : S41)] : List (S41)) : List (S41))).bind fun y288 => ((apply_Apply.f (([(⟨#[97]⟩ : ByteArray)] : List ByteArray)) y288).bind fun bt294 => ((apply_Apply.f (([(⟨#[99]⟩ : ByteArray)] : List ByteArray)) y288).bind fun bt301 => ((apply_Between.f k (([(⟨#[97]⟩ : ByteArray)] : List ByteArray)) (([(⟨#[98]⟩ : ByteArray)] : List ByteArray)) 0).bind fun bt311 => (if bt294.2 = 0 then ((grapevineref01_Texts.f k bt294.1 (([(⟨#[98]⟩ : ByteArray)] : List ByteArray))).bind fun t318 => (if t318 = true then (if bt301.2 = 6 then (if bt311.2 = 0 then ((grapevineref05_Same.f k bt311.1 y288).bind fun t319 => (if t319 = true then ((apply_Right.f k y288).bind fun t320 => (if t320 = true then ((apply_Turn.f k y288).bind fun t321 => (some ((t321.length : Int) == 1))) else (some false))) else (some false))) else (some false)) else (some false)) else (some false))) else (some false)))))) = some r := by first | (rw [hy285]; with_reducible exact H) | (have H2_ := (Option.bind_some _ _).symm.trans H; rw [hy285]; with_reducible exact H2_) | (have H2_ := (Option.bind_some _ _).symm.trans H; with_reducible exact H2_) | with_reducible exact H | (rw [hy285]; exact H) | exact H
 have Ny285 := Aside0.mk hy285
 clear hy285
 obtain ⟨y288, hy288⟩ : ∃ y_ : List (S41), y_ = (([(⟨0, 1, 0, 1, y285⟩ : S41)] : List (S41))) := ⟨_, rfl⟩
 replace H : ((apply_Apply.f (([(⟨#[97]⟩ : ByteArray)] : List ByteArray)) y288).bind fun bt294 => ((apply_Apply.f (([(⟨#[99]⟩ : ByteArray)] : List ByteArray)) y288).bind fun bt301 => ((apply_Between.f k (([(⟨#[97]⟩ : ByteArray)] : List ByteArray)) (([(⟨#[98]⟩ : ByteArray)] : List ByteArray)) 0).bind fun bt311 => (if bt294.2 = 0 then ((grapevineref01_Texts.f k bt294.1 (([(⟨#[98]⟩ : ByteArray)] : List ByteArray))).bind fun t318 => (if t318 = true then (if bt301.2 = 6 then (if bt311.2 = 0 then ((grapevineref05_Same.f k bt311.1 y288).bind fun t319 => (if t319 = true then ((apply_Right.f k y288).bind fun t320 => (if t320 = true then ((apply_Turn.f k y288).bind fun t321 => (some ((t321.length : Int) == 1))) else (some false))) else (some false))) else (some false)) else (some false)) else (some false))) else (some false))))) = some r := by first | (rw [hy288]; with_reducible exact H) | (have H2_ := (Option.bind_some _ _).symm.trans H; rw [hy288]; with_reducible exact H2_) | (have H2_ := (Option.bind_some _ _).symm.trans H; with_reducible exact H2_) | with_reducible exact H | (rw [hy288]; exact H) | exact H
 have Ny288 := Aside0.mk hy288
 clear hy288
 obtain ⟨y291, hy291⟩ : ∃ y_ : List ByteArray, y_ = (([(⟨#[97]⟩ : ByteArray)] : List ByteArray)) := ⟨_, rfl⟩
 replace H : ((apply_Apply.f y291 y288).bind fun bt294 => ((apply_Apply.f (([(⟨#[99]⟩ : ByteArray)] : List ByteArray)) y288).bind fun bt301 => ((apply_Between.f k (([(⟨#[97]⟩ : ByteArray)] : List ByteArray)) (([(⟨#[98]⟩ : ByteArray)] : List ByteArray)) 0).bind fun bt311 => (if bt294.2 = 0 then ((grapevineref01_Texts.f k bt294.1 (([(⟨#[98]⟩ : ByteArray)] : List ByteArray))).bind fun t318 => (if t318 = true then (if bt301.2 = 6 then (if bt311.2 = 0 then ((grapevineref05_Same.f k bt311.1 y288).bind fun t319 => (if t319 = true then ((apply_Right.f k y288).bind fun t320 => (if t320 = true then ((apply_Turn.f k y288).bind fun t321 => (some ((t321.length : Int) == 1))) else (some false))) else (some false))) else (some false)) else (some false)) else (some false))) else (some false))))) = some r := by first | (rw [hy291]; with_reducible exact H) | (have H2_ := (Option.bind_some _ _).symm.trans H; rw [hy291]; with_reducible exact H2_) | (have H2_ := (Option.bind_some _ _).symm.trans H; with_reducible exact H2_) | with_reducible exact H | (rw [hy291]; exact H) | exact H
 have Ny291 := Aside0.mk hy291
 clear hy291
 replace H := Option.bind_eq_some_iff.mp H
 obtain ⟨⟨t294, t295⟩, A10, H⟩ := H
 replace H : ((apply_Apply.f (([(⟨#[99]⟩ : ByteArray)] : List ByteArray)) y288).bind fun bt301 => ((apply_Between.f k (([(⟨#[97]⟩ : ByteArray)] : List ByteArray)) (([(⟨#[98]⟩ : ByteArray)] : List ByteArray)) 0).bind fun bt311 => (if t295 = 0 then ((grapevineref01_Texts.f k t294 (([(⟨#[98]⟩ : ByteArray)] : List ByteArray))).bind fun t318 => (if t318 = true then (if bt301.2 = 6 then (if bt311.2 = 0 then ((grapevineref05_Same.f k bt311.1 y288).bind fun t319 => (if t319 = true then ((apply_Right.f k y288).bind fun t320 => (if t320 = true then ((apply_Turn.f k y288).bind fun t321 => (some ((t321.length : Int) == 1))) else (some false))) else (some false))) else (some false)) else (some false)) else (some false))) else (some false)))) = some r := H
 have A1 := Aside0.mk A10
 clear A10
 obtain ⟨y298, hy298⟩ : ∃ y_ : List ByteArray, y_ = (([(⟨#[99]⟩ : ByteArray)] : List ByteArray)) := ⟨_, rfl⟩
 replace H : ((apply_Apply.f y298 y288).bind fun bt301 => ((apply_Between.f k (([(⟨#[97]⟩ : ByteArray)] : List ByteArray)) (([(⟨#[98]⟩ : ByteArray)] : List ByteArray)) 0).bind fun bt311 => (if t295 = 0 then ((grapevineref01_Texts.f k t294 (([(⟨#[98]⟩ : ByteArray)] : List ByteArray))).bind fun t318 => (if t318 = true then (if bt301.2 = 6 then (if bt311.2 = 0 then ((grapevineref05_Same.f k bt311.1 y288).bind fun t319 => (if t319 = true then ((apply_Right.f k y288).bind fun t320 => (if t320 = true then ((apply_Turn.f k y288).bind fun t321 => (some ((t321.length : Int) == 1))) else (some false))) else (some false))) else (some false)) else (some false)) else (some false))) else (some false)))) = some r := by first | (rw [hy298]; with_reducible exact H) | (have H2_ := (Option.bind_some _ _).symm.trans H; rw [hy298]; with_reducible exact H2_) | (have H2_ := (Option.bind_some _ _).symm.trans H; with_reducible exact H2_) | with_reducible exact H | (rw [hy298]; exact H) | exact H
 have Ny298 := Aside0.mk hy298
 clear hy298
 replace H := Option.bind_eq_some_iff.mp H
 obtain ⟨⟨t301, t302⟩, A20, H⟩ := H
 replace H : ((apply_Between.f k (([(⟨#[97]⟩ : ByteArray)] : List ByteArray)) (([(⟨#[98]⟩ : ByteArray)] : List ByteArray)) 0).bind fun bt311 => (if t295 = 0 then ((grapevineref01_Texts.f k t294 (([(⟨#[98]⟩ : ByteArray)] : List ByteArray))).bind fun t318 => (if t318 = true then (if t302 = 6 then (if bt311.2 = 0 then ((grapevineref05_Same.f k bt311.1 y288).bind fun t319 => (if t319 = true then ((apply_Right.f k y288).bind fun t320 => (if t320 = true then ((apply_Turn.f k y288).bind fun t321 => (some ((t321.length : Int) == 1))) else (some false))) else (some false))) else (some false)) else (some false)) else (some false))) else (some false))) = some r := H
 have A2 := Aside0.mk A20
 clear A20
 obtain ⟨y305, hy305⟩ : ∃ y_ : List ByteArray, y_ = (([(⟨#[97]⟩ : ByteArray)] : List ByteArray)) := ⟨_, rfl⟩
 replace H : ((apply_Between.f k y305 (([(⟨#[98]⟩ : ByteArray)] : List ByteArray)) 0).bind fun bt311 => (if t295 = 0 then ((grapevineref01_Texts.f k t294 (([(⟨#[98]⟩ : ByteArray)] : List ByteArray))).bind fun t318 => (if t318 = true then (if t302 = 6 then (if bt311.2 = 0 then ((grapevineref05_Same.f k bt311.1 y288).bind fun t319 => (if t319 = true then ((apply_Right.f k y288).bind fun t320 => (if t320 = true then ((apply_Turn.f k y288).bind fun t321 => (some ((t321.length : Int) == 1))) else (some false))) else (some false))) else (some false)) else (some false)) else (some false))) else (some false))) = some r := by first | (rw [hy305]; with_reducible exact H) | (have H2_ := (Option.bind_some _ _).symm.trans H; rw [hy305]; with_reducible exact H2_) | (have H2_ := (Option.bind_some _ _).symm.trans H; with_reducible exact H2_) | with_reducible exact H | (rw [hy305]; exact H) | exact H
 have Ny305 := Aside0.mk hy305
 clear hy305
 obtain ⟨y308, hy308⟩ : ∃ y_ : List ByteArray, y_ = (([(⟨#[98]⟩ : ByteArray)] : List ByteArray)) := ⟨_, rfl⟩
 replace H : ((apply_Between.f k y305 y308 0).bind fun bt311 => (if t295 = 0 then ((grapevineref01_Texts.f k t294 (([(⟨#[98]⟩ : ByteArray)] : List ByteArray))).bind fun t318 => (if t318 = true then (if t302 = 6 then (if bt311.2 = 0 then ((grapevineref05_Same.f k bt311.1 y288).bind fun t319 => (if t319 = true then ((apply_Right.f k y288).bind fun t320 => (if t320 = true then ((apply_Turn.f k y288).bind fun t321 => (some ((t321.length : Int) == 1))) else (some false))) else (some false))) else (some false)) else (some false)) else (some false))) else (some false))) = some r := by first | (rw [hy308]; with_reducible exact H) | (have H2_ := (Option.bind_some _ _).symm.trans H; rw [hy308]; with_reducible exact H2_) | (have H2_ := (Option.bind_some _ _).symm.trans H; with_reducible exact H2_) | with_reducible exact H | (rw [hy308]; exact H) | exact H
 have Ny308 := Aside0.mk hy308
 clear hy308
 replace H := Option.bind_eq_some_iff.mp H
 obtain ⟨⟨t311, t312⟩, A30, H⟩ := H
 replace H : (if t295 = 0 then ((grapevineref01_Texts.f k t294 (([(⟨#[98]⟩ : ByteArray)] : List ByteArray))).bind fun t318 => (if t318 = true then (if t302 = 6 then (if t312 = 0 then ((grapevineref05_Same.f k t311 y288).bind fun t319 => (if t319 = true then ((apply_Right.f k y288).bind fun t320 => (if t320 = true then ((apply_Turn.f k y288).bind fun t321 => (some ((t321.length : Int) == 1))) else (some false))) else (some false))) else (some false)) else (some false)) else (some false))) else (some false)) = some r := H
 have A3 := Aside0.mk A30
 clear A30
 by_cases c4 : t295 = 0
 ·rw [if_pos c4] at H
  have c4b0 : (t295 == 0) = true := beq_iff_eq.mpr c4
  have c4b1 : (t295 != 0) = false := bne_eq_false_iff_eq.mpr c4
  clear c4
  obtain ⟨y315, hy315⟩ : ∃ y_ : List ByteArray, y_ = (([(⟨#[98]⟩ : ByteArray)] : List ByteArray)) := ⟨_, rfl⟩
  replace H : ((grapevineref01_Texts.f k t294 y315).bind fun t318 => (if t318 = true then (if t302 = 6 then (if t312 = 0 then ((grapevineref05_Same.f k t311 y288).bind fun t319 => (if t319 = true then ((apply_Right.f k y288).bind fun t320 => (if t320 = true then ((apply_Turn.f k y288).bind fun t321 => (some ((t321.length : Int) == 1))) else (some false))) else (some false))) else (some false)) else (some false)) else (some false))) = some r := by first | (rw [hy315]; with_reducible exact H) | (have H2_ := (Option.bind_some _ _).symm.trans H; rw [hy315]; with_reducible exact H2_) | (have H2_ := (Option.bind_some _ _).symm.trans H; with_reducible exact H2_) | with_reducible exact H | (rw [hy315]; exact H) | exact H
  have Ny315 := Aside0.mk hy315
  clear hy315
  replace H := Option.bind_eq_some_iff.mp H
  obtain ⟨t318, A50, H⟩ := H
  replace H : (if t318 = true then (if t302 = 6 then (if t312 = 0 then ((grapevineref05_Same.f k t311 y288).bind fun t319 => (if t319 = true then ((apply_Right.f k y288).bind fun t320 => (if t320 = true then ((apply_Turn.f k y288).bind fun t321 => (some ((t321.length : Int) == 1))) else (some false))) else (some false))) else (some false)) else (some false)) else (some false)) = some r := H
  have A5 := Aside0.mk A50
  clear A50
  by_cases c6 : t318 = true
  ·subst c6
   have H1 : (if t302 = 6 then (if t312 = 0 then ((grapevineref05_Same.f k t311 y288).bind fun t319 => (if t319 = true then ((apply_Right.f k y288).bind fun t320 => (if t320 = true then ((apply_Turn.f k y288).bind fun t321 => (some ((t321.length : Int) == 1))) else (some false))) else (some false))) else (some false)) else (some false)) = some r := by rw [if_pos rfl] at H; exact H
   clear H
   have H := H1
   clear H1
   by_cases c7 : t302 = 6
   ·rw [if_pos c7] at H
    have c7b0 : (t302 == 6) = true := beq_iff_eq.mpr c7
    have c7b1 : (t302 != 6) = false := bne_eq_false_iff_eq.mpr c7
    clear c7
    by_cases c8 : t312 = 0
    ·rw [if_pos c8] at H
     have c8b0 : (t312 == 0) = true := beq_iff_eq.mpr c8
     have c8b1 : (t312 != 0) = false := bne_eq_false_iff_eq.mpr c8
     clear c8
     replace H := Option.bind_eq_some_iff.mp H
     obtain ⟨t319, A90, H⟩ := H
     replace H : (if t319 = true then ((apply_Right.f k y288).bind fun t320 => (if t320 = true then ((apply_Turn.f k y288).bind fun t321 => (some ((t321.length : Int) == 1))) else (some false))) else (some false)) = some r := H
     have A9 := Aside0.mk A90
     clear A90
     by_cases c10 : t319 = true
     ·subst c10
      have H1 : ((apply_Right.f k y288).bind fun t320 => (if t320 = true then ((apply_Turn.f k y288).bind fun t321 => (some ((t321.length : Int) == 1))) else (some false))) = some r := by rw [if_pos rfl] at H; exact H
      clear H
      have H := H1
      clear H1
      replace H := Option.bind_eq_some_iff.mp H
      obtain ⟨t320, A110, H⟩ := H
      replace H : (if t320 = true then ((apply_Turn.f k y288).bind fun t321 => (some ((t321.length : Int) == 1))) else (some false)) = some r := H
      have A11 := Aside0.mk A110
      clear A110
      by_cases c12 : t320 = true
      ·subst c12
       have H1 : ((apply_Turn.f k y288).bind fun t321 => (some ((t321.length : Int) == 1))) = some r := by rw [if_pos rfl] at H; exact H
       clear H
       have H := H1
       clear H1
       replace H := Option.bind_eq_some_iff.mp H
       obtain ⟨t321, A130, H⟩ := H
       replace H : (some ((t321.length : Int) == 1)) = some r := H
       have A13 := Aside0.mk A130
       clear A130
       obtain rfl := Option.some.inj H
       go_enter Try.func10, Try.ntmps10
       go_wp2_with (first | ((with_reducible refine gate_dst (N := 8) rfl ?_); (try (refine gate_guard (by rfl) ?_; dsimp only)); refine Kd.R_lit Kd.string _ 9 ?hg (N := 8) ?hd (xs := ([(⟨#[45, 97]⟩ : ByteArray), (⟨#[43, 98]⟩ : ByteArray)] : List ByteArray)) (inner := [.string (⟨#[45, 97]⟩ : ByteArray), .string (⟨#[43, 98]⟩ : ByteArray)]) (ok := fun _ => True) (okp := fun _ => True) ?hr ?hp (fun _ hk => hk) trivial (Below.refl _ _) (Nat.le_refl _) (by simp) ?_; (case hd => rfl); (case hg => rfl); (case hr => first | (go_simp; done) | (go_simp; rfl)); (case hp => exact (Reps.one (show Kd.M Kd.string _ _ _ (⟨#[45, 97]⟩ : ByteArray) [.string (⟨#[45, 97]⟩ : ByteArray)] from rfl) (Reps.one (show Kd.M Kd.string _ _ _ (⟨#[43, 98]⟩ : ByteArray) [.string (⟨#[43, 98]⟩ : ByteArray)] from rfl) (Reps.none _ _)))); intro v286 w14 ho15 hb hg_ hnew_; clear hg_ hnew_; (first | rw [← Ny285.out] at ho15 | (simp only [Int.reduceToNat] at ho15; rw [← Ny285.out] at ho15)); have n0_ := Aside0.mk (Kd.R_lower ho15 (below_size (by repeat (first | (with_reducible first | exact HB.out | apply below_alloc | apply pw_below_drewN | apply below_drew1) | exact HB.out)))); have n1_ := Aside0.mk (below_step (by repeat (first | (with_reducible first | exact HB.out | apply below_alloc | apply pw_below_drewN | apply below_drew1) | exact HB.out)) hb); clear HB; have HO287 := n0_; have HB := n1_; clear n0_ n1_; clear hb ho15; obtain ⟨Ao16, co16, eo16⟩ := Kd.R_slice HO287.out; subst eo16) | ((with_reducible refine gate_dst (N := 10) rfl ?_); (try (refine gate_guard (by rfl) ?_; dsimp only)); refine Kd.N_lit k41 _ 41 ?hg (N' := 10) ?hd (xs := ([(⟨0, 1, 0, 1, y285⟩ : S41)] : List (S41))) (inner := [.int .i64 0, .int .i64 1, .int .i64 0, .int .i64 1, .slice Ao16 y285.length co16]) (ok := (fun _ => True)) (okp := (fun _ => True)) ?hr ?hp (fun _ hk => hk) ((show ∀ k_, w14.heap.size ≤ k_ → (fun _ => True) k_ from fun k_ hk => trivial) _ (Nat.le_refl _)) (Below.refl _ _) (Nat.le_refl _) (by simp) ?_; (case hd => rfl); (case hg => rfl); (case hr => first | (go_simp; done) | (go_simp; rfl)); (case hp => exact (Reps.c5 (show Kd.FK k41 _ _ (⟨0, 1, 0, 1, y285⟩ : S41) [.int .i64 0, .int .i64 1, .int .i64 0, .int .i64 1, .slice Ao16 y285.length co16] from (k41_mkF _ _ (⟨0, 1, 0, 1, y285⟩ : S41) (Kd.R_reads' (Kd.R_mono (ok' := (fun _ => True)) (HO287.out) (fun k_ hk => trivial))).2.1 (Kd.R_F (Kd.R_mono (ok' := (fun _ => True)) (HO287.out) (fun k_ hk => trivial))))) (Reps.none _ _))); intro v289 w17 ho18 hb hg_ hnew_; clear hg_ hnew_; (first | rw [← Ny288.out] at ho18 | (simp only [Int.reduceToNat] at ho18; rw [← Ny288.out] at ho18)); have n0_ := Aside0.mk (Kd.N_lower ho18 (below_size (by repeat (first | (with_reducible first | exact HB.out | apply below_alloc | apply pw_below_drewN | apply below_drew1) | exact HB.out)))); have n1_ := Aside0.mk (below_step (by repeat (first | (with_reducible first | exact HB.out | apply below_alloc | apply pw_below_drewN | apply below_drew1) | exact HB.out)) hb); clear HB; clear HO287; have HO290 := n0_; have HB := n1_; clear n0_ n1_; clear hb ho18) | ((with_reducible refine gate_dst (N := 12) rfl ?_); (try (refine gate_guard (by rfl) ?_; dsimp only)); refine Kd.R_lit Kd.string _ 9 ?hg (N := 12) ?hd (xs := ([(⟨#[97]⟩ : ByteArray)] : List ByteArray)) (inner := [.string (⟨#[97]⟩ : ByteArray)]) (ok := fun _ => True) (okp := fun _ => True) ?hr ?hp (fun _ hk => hk) trivial (Below.refl _ _) (Nat.le_refl _) (by simp) ?_; (case hd => rfl); (case hg => rfl); (case hr => first | (go_simp; done) | (go_simp; rfl)); (case hp => exact (Reps.one (show Kd.M Kd.string _ _ _ (⟨#[97]⟩ : ByteArray) [.string (⟨#[97]⟩ : ByteArray)] from rfl) (Reps.none _ _))); intro v292 w19 ho20 hb hg_ hnew_; clear hg_ hnew_; (first | rw [← Ny291.out] at ho20 | (simp only [Int.reduceToNat] at ho20; rw [← Ny291.out] at ho20)); have n0_ := Aside0.mk (Kd.N_elder' (by (with_reducible repeat (first | apply Kd.N_alloc | apply Kd.N_drewN | apply Kd.N_drew)); exact HO290.out) (Kd.R_base ho20) hb); have n1_ := Aside0.mk (Kd.R_lower ho20 (below_size (by repeat (first | (with_reducible first | exact HB.out | apply below_alloc | apply pw_below_drewN | apply below_drew1) | exact HB.out)))); have n2_ := Aside0.mk (below_step (by repeat (first | (with_reducible first | exact HB.out | apply below_alloc | apply pw_below_drewN | apply below_drew1) | exact HB.out)) hb); clear HO290; clear HB; have HO290 := n0_; have HO293 := n1_; have HB := n2_; clear n0_ n1_ n2_; clear hb ho20; obtain ⟨Ao21, co21, eo21⟩ := Kd.R_slice HO293.out; subst eo21; obtain ⟨Ao22, co22, eo22⟩ := Kd.N_slice HO290.out; subst eo22) | ((with_reducible refine gate_callee (f := 12) rfl ?_); refine goesL_ (some 14) rfl rfl Try.func12 (by kernel_rfl) rfl #[.slice Ao21 y291.length co21, .slice Ao22 y288.length co22] rfl (by (try simp only [List.map_toArray, List.map_cons, List.map_nil]); first | done | rfl | (simp only [List.length_drop, List.length_take]; rfl)) ?_; (with_reducible refine (apply_Apply.calls _ _ y291 _ _ y288 t294 t295 _ ?side1 ?side2 ?side3 ?side4 A1.out).mono ?_); (case side1 => repeat (first | exact (Kd.R_reads' HO293.out).2.2 | (with_reducible refine Kd.C_alloc ?_ _) | (with_reducible refine Kd.C_drewN ?_ _) | (with_reducible refine Kd.C_drew ?_))); (case side2 => exact (Kd.R_reads' HO293.out).2.1); (case side3 => repeat (first | exact (Kd.N_reads' HO290.out).2.2 | (with_reducible refine Kd.C_alloc ?_ _) | (with_reducible refine Kd.C_drewN ?_ _) | (with_reducible refine Kd.C_drew ?_))); (case side4 => exact (Kd.N_reads' HO290.out).2.1); rintro e w23 ⟨v296, rfl, ho0, hb⟩; refine ⟨_, rfl, ?_⟩; have n0_ := Aside0.mk (Kd.N_elder' (by (with_reducible repeat (first | apply Kd.N_alloc | apply Kd.N_drewN | apply Kd.N_drew)); exact HO290.out) (Kd.R_base ho0) hb); have n1_ := Aside0.mk (Kd.R_elder' (by (with_reducible repeat (first | apply Kd.R_alloc | apply Kd.R_drewN | apply Kd.R_drew)); exact HO293.out) (Kd.R_base ho0) hb); have n2_ := Aside0.mk (Kd.R_lower (Kd.R_new' ho0 (Kd.R_lt (by (with_reducible repeat (first | apply Kd.R_alloc | apply Kd.R_drewN | apply Kd.R_drew)); exact HO293.out))) (below_size (by repeat (first | (with_reducible first | exact HB.out | apply below_alloc | apply pw_below_drewN | apply below_drew1) | exact HB.out)))); have n3_ := Aside0.mk (below_step (by repeat (first | (with_reducible first | exact HB.out | apply below_alloc | apply pw_below_drewN | apply below_drew1) | exact HB.out)) hb); clear HO290; clear HO293; clear HB; have HO290 := n0_; have HO293 := n1_; have HO297 := n2_; have HB := n3_; clear n0_ n1_ n2_ n3_; (try clear hb); (try clear hb2); (try clear hk); (try clear hi); (try clear ho0)) | ((with_reducible refine gate_dst (N := 18) rfl ?_); (try (refine gate_guard (by rfl) ?_; dsimp only)); refine Kd.R_lit Kd.string _ 9 ?hg (N := 18) ?hd (xs := ([(⟨#[99]⟩ : ByteArray)] : List ByteArray)) (inner := [.string (⟨#[99]⟩ : ByteArray)]) (ok := fun _ => True) (okp := fun _ => True) ?hr ?hp (fun _ hk => hk) trivial (Below.refl _ _) (Nat.le_refl _) (by simp) ?_; (case hd => rfl); (case hg => rfl); (case hr => first | (go_simp; done) | (go_simp; rfl)); (case hp => exact (Reps.one (show Kd.M Kd.string _ _ _ (⟨#[99]⟩ : ByteArray) [.string (⟨#[99]⟩ : ByteArray)] from rfl) (Reps.none _ _))); intro v299 w24 ho25 hb hg_ hnew_; clear hg_ hnew_; (first | rw [← Ny298.out] at ho25 | (simp only [Int.reduceToNat] at ho25; rw [← Ny298.out] at ho25)); have n0_ := Aside0.mk (Kd.N_elder' (by (with_reducible repeat (first | apply Kd.N_alloc | apply Kd.N_drewN | apply Kd.N_drew)); exact HO290.out) (Kd.R_base ho25) hb); have n1_ := Aside0.mk (Kd.R_elder' (by (with_reducible repeat (first | apply Kd.R_alloc | apply Kd.R_drewN | apply Kd.R_drew)); exact HO293.out) (Kd.R_base ho25) hb); have n2_ := Aside0.mk (Kd.R_elder' (by (with_reducible repeat (first | apply Kd.R_alloc | apply Kd.R_drewN | apply Kd.R_drew)); exact HO297.out) (Kd.R_base ho25) hb); have n3_ := Aside0.mk (Kd.R_lower (Kd.R_new' (Kd.R_new' ho25 (Kd.R_lt (by (with_reducible repeat (first | apply Kd.R_alloc | apply Kd.R_drewN | apply Kd.R_drew)); exact HO293.out))) (Kd.R_lt (by (with_reducible repeat (first | apply Kd.R_alloc | apply Kd.R_drewN | apply Kd.R_drew)); exact HO297.out))) (below_size (by repeat (first | (with_reducible first | exact HB.out | apply below_alloc | apply pw_below_drewN | apply below_drew1) | exact HB.out)))); have n4_ := Aside0.mk (below_step (by repeat (first | (with_reducible first | exact HB.out | apply below_alloc | apply pw_below_drewN | apply below_drew1) | exact HB.out)) hb); clear HO290; clear HO293; clear HO297; clear HB; have HO290 := n0_; have HO293 := n1_; have HO297 := n2_; have HO300 := n3_; have HB := n4_; clear n0_ n1_ n2_ n3_ n4_; clear hb ho25; obtain ⟨Ao26, co26, eo26⟩ := Kd.R_slice HO300.out; subst eo26) | ((with_reducible refine gate_callee (f := 12) rfl ?_); refine goesL_ (some 20) rfl rfl Try.func12 (by kernel_rfl) rfl #[.slice Ao26 y298.length co26, .slice Ao22 y288.length co22] rfl (by (try simp only [List.map_toArray, List.map_cons, List.map_nil]); first | done | rfl | (simp only [List.length_drop, List.length_take]; rfl)) ?_; (with_reducible refine (apply_Apply.calls _ _ y298 _ _ y288 t301 t302 _ ?side1 ?side2 ?side3 ?side4 A2.out).mono ?_); (case side1 => repeat (first | exact (Kd.R_reads' HO300.out).2.2 | (with_reducible refine Kd.C_alloc ?_ _) | (with_reducible refine Kd.C_drewN ?_ _) | (with_reducible refine Kd.C_drew ?_))); (case side2 => exact (Kd.R_reads' HO300.out).2.1); (case side3 => repeat (first | exact (Kd.N_reads' HO290.out).2.2 | (with_reducible refine Kd.C_alloc ?_ _) | (with_reducible refine Kd.C_drewN ?_ _) | (with_reducible refine Kd.C_drew ?_))); (case side4 => exact (Kd.N_reads' HO290.out).2.1); rintro e w27 ⟨v303, rfl, ho0, hb⟩; refine ⟨_, rfl, ?_⟩; have n0_ := Aside0.mk (Kd.N_elder' (by (with_reducible repeat (first | apply Kd.N_alloc | apply Kd.N_drewN | apply Kd.N_drew)); exact HO290.out) (Kd.R_base ho0) hb); have n1_ := Aside0.mk (Kd.R_elder' (by (with_reducible repeat (first | apply Kd.R_alloc | apply Kd.R_drewN | apply Kd.R_drew)); exact HO293.out) (Kd.R_base ho0) hb); have n2_ := Aside0.mk (Kd.R_elder' (by (with_reducible repeat (first | apply Kd.R_alloc | apply Kd.R_drewN | apply Kd.R_drew)); exact HO297.out) (Kd.R_base ho0) hb); have n3_ := Aside0.mk (Kd.R_elder' (by (with_reducible repeat (first | apply Kd.R_alloc | apply Kd.R_drewN | apply Kd.R_drew)); exact HO300.out) (Kd.R_base ho0) hb); have n4_ := Aside0.mk (Kd.R_lower (Kd.R_new' (Kd.R_new' (Kd.R_new' ho0 (Kd.R_lt (by (with_reducible repeat (first | apply Kd.R_alloc | apply Kd.R_drewN | apply Kd.R_drew)); exact HO293.out))) (Kd.R_lt (by (with_reducible repeat (first | apply Kd.R_alloc | apply Kd.R_drewN | apply Kd.R_drew)); exact HO297.out))) (Kd.R_lt (by (with_reducible repeat (first | apply Kd.R_alloc | apply Kd.R_drewN | apply Kd.R_drew)); exact HO300.out))) (below_size (by repeat (first | (with_reducible first | exact HB.out | apply below_alloc | apply pw_below_drewN | apply below_drew1) | exact HB.out)))); have n5_ := Aside0.mk (below_step (by repeat (first | (with_reducible first | exact HB.out | apply below_alloc | apply pw_below_drewN | apply below_drew1) | exact HB.out)) hb); clear HO290; clear HO293; clear HO297; clear HO300; clear HB; have HO290 := n0_; have HO293 := n1_; have HO297 := n2_; have HO300 := n3_; have HO304 := n4_; have HB := n5_; clear n0_ n1_ n2_ n3_ n4_ n5_; (try clear hb); (try clear hb2); (try clear hk); (try clear hi); (try clear ho0)) | ((with_reducible refine gate_dst (N := 24) rfl ?_); (try (refine gate_guard (by rfl) ?_; dsimp only)); refine Kd.R_lit Kd.string _ 9 ?hg (N := 24) ?hd (xs := ([(⟨#[97]⟩ : ByteArray)] : List ByteArray)) (inner := [.string (⟨#[97]⟩ : ByteArray)]) (ok := fun _ => True) (okp := fun _ => True) ?hr ?hp (fun _ hk => hk) trivial (Below.refl _ _) (Nat.le_refl _) (by simp) ?_; (case hd => rfl); (case hg => rfl); (case hr => first | (go_simp; done) | (go_simp; rfl)); (case hp => exact (Reps.one (show Kd.M Kd.string _ _ _ (⟨#[97]⟩ : ByteArray) [.string (⟨#[97]⟩ : ByteArray)] from rfl) (Reps.none _ _))); intro v306 w28 ho29 hb hg_ hnew_; clear hg_ hnew_; (first | rw [← Ny305.out] at ho29 | (simp only [Int.reduceToNat] at ho29; rw [← Ny305.out] at ho29)); have n0_ := Aside0.mk (Kd.N_elder' (by (with_reducible repeat (first | apply Kd.N_alloc | apply Kd.N_drewN | apply Kd.N_drew)); exact HO290.out) (Kd.R_base ho29) hb); have n1_ := Aside0.mk (Kd.R_elder' (by (with_reducible repeat (first | apply Kd.R_alloc | apply Kd.R_drewN | apply Kd.R_drew)); exact HO293.out) (Kd.R_base ho29) hb); have n2_ := Aside0.mk (Kd.R_elder' (by (with_reducible repeat (first | apply Kd.R_alloc | apply Kd.R_drewN | apply Kd.R_drew)); exact HO297.out) (Kd.R_base ho29) hb); have n3_ := Aside0.mk (Kd.R_elder' (by (with_reducible repeat (first | apply Kd.R_alloc | apply Kd.R_drewN | apply Kd.R_drew)); exact HO300.out) (Kd.R_base ho29) hb); have n4_ := Aside0.mk (Kd.R_elder' (by (with_reducible repeat (first | apply Kd.R_alloc | apply Kd.R_drewN | apply Kd.R_drew)); exact HO304.out) (Kd.R_base ho29) hb); have n5_ := Aside0.mk (Kd.R_lower (Kd.R_new' (Kd.R_new' (Kd.R_new' (Kd.R_new' ho29 (Kd.R_lt (by (with_reducible repeat (first | apply Kd.R_alloc | apply Kd.R_drewN | apply Kd.R_drew)); exact HO293.out))) (Kd.R_lt (by (with_reducible repeat (first | apply Kd.R_alloc | apply Kd.R_drewN | apply Kd.R_drew)); exact HO297.out))) (Kd.R_lt (by (with_reducible repeat (first | apply Kd.R_alloc | apply Kd.R_drewN | apply Kd.R_drew)); exact HO300.out))) (Kd.R_lt (by (with_reducible repeat (first | apply Kd.R_alloc | apply Kd.R_drewN | apply Kd.R_drew)); exact HO304.out))) (below_size (by repeat (first | (with_reducible first | exact HB.out | apply below_alloc | apply pw_below_drewN | apply below_drew1) | exact HB.out)))); have n6_ := Aside0.mk (below_step (by repeat (first | (with_reducible first | exact HB.out | apply below_alloc | apply pw_below_drewN | apply below_drew1) | exact HB.out)) hb); clear HO290; clear HO293; clear HO297; clear HO300; clear HO304; clear HB; have HO290 := n0_; have HO293 := n1_; have HO297 := n2_; have HO300 := n3_; have HO304 := n4_; have HO307 := n5_; have HB := n6_; clear n0_ n1_ n2_ n3_ n4_ n5_ n6_; clear hb ho29) | ((with_reducible refine gate_dst (N := 25) rfl ?_); (try (refine gate_guard (by rfl) ?_; dsimp only)); refine Kd.R_lit Kd.string _ 9 ?hg (N := 25) ?hd (xs := ([(⟨#[98]⟩ : ByteArray)] : List ByteArray)) (inner := [.string (⟨#[98]⟩ : ByteArray)]) (ok := fun _ => True) (okp := fun _ => True) ?hr ?hp (fun _ hk => hk) trivial (Below.refl _ _) (Nat.le_refl _) (by simp) ?_; (case hd => rfl); (case hg => rfl); (case hr => first | (go_simp; done) | (go_simp; rfl)); (case hp => exact (Reps.one (show Kd.M Kd.string _ _ _ (⟨#[98]⟩ : ByteArray) [.string (⟨#[98]⟩ : ByteArray)] from rfl) (Reps.none _ _))); intro v309 w30 ho31 hb hg_ hnew_; clear hg_ hnew_; (first | rw [← Ny308.out] at ho31 | (simp only [Int.reduceToNat] at ho31; rw [← Ny308.out] at ho31)); have n0_ := Aside0.mk (Kd.N_elder' (by (with_reducible repeat (first | apply Kd.N_alloc | apply Kd.N_drewN | apply Kd.N_drew)); exact HO290.out) (Kd.R_base ho31) hb); have n1_ := Aside0.mk (Kd.R_elder' (by (with_reducible repeat (first | apply Kd.R_alloc | apply Kd.R_drewN | apply Kd.R_drew)); exact HO293.out) (Kd.R_base ho31) hb); have n2_ := Aside0.mk (Kd.R_elder' (by (with_reducible repeat (first | apply Kd.R_alloc | apply Kd.R_drewN | apply Kd.R_drew)); exact HO297.out) (Kd.R_base ho31) hb); have n3_ := Aside0.mk (Kd.R_elder' (by (with_reducible repeat (first | apply Kd.R_alloc | apply Kd.R_drewN | apply Kd.R_drew)); exact HO300.out) (Kd.R_base ho31) hb); have n4_ := Aside0.mk (Kd.R_elder' (by (with_reducible repeat (first | apply Kd.R_alloc | apply Kd.R_drewN | apply Kd.R_drew)); exact HO304.out) (Kd.R_base ho31) hb); have n5_ := Aside0.mk (Kd.R_elder' (by (with_reducible repeat (first | apply Kd.R_alloc | apply Kd.R_drewN | apply Kd.R_drew)); exact HO307.out) (Kd.R_base ho31) hb); have n6_ := Aside0.mk (Kd.R_lower (Kd.R_new' (Kd.R_new' (Kd.R_new' (Kd.R_new' (Kd.R_new' ho31 (Kd.R_lt (by (with_reducible repeat (first | apply Kd.R_alloc | apply Kd.R_drewN | apply Kd.R_drew)); exact HO293.out))) (Kd.R_lt (by (with_reducible repeat (first | apply Kd.R_alloc | apply Kd.R_drewN | apply Kd.R_drew)); exact HO297.out))) (Kd.R_lt (by (with_reducible repeat (first | apply Kd.R_alloc | apply Kd.R_drewN | apply Kd.R_drew)); exact HO300.out))) (Kd.R_lt (by (with_reducible repeat (first | apply Kd.R_alloc | apply Kd.R_drewN | apply Kd.R_drew)); exact HO304.out))) (Kd.R_lt (by (with_reducible repeat (first | apply Kd.R_alloc | apply Kd.R_drewN | apply Kd.R_drew)); exact HO307.out))) (below_size (by repeat (first | (with_reducible first | exact HB.out | apply below_alloc | apply pw_below_drewN | apply below_drew1) | exact HB.out)))); have n7_ := Aside0.mk (below_step (by repeat (first | (with_reducible first | exact HB.out | apply below_alloc | apply pw_below_drewN | apply below_drew1) | exact HB.out)) hb); clear HO290; clear HO293; clear HO297; clear HO300; clear HO304; clear HO307; clear HB; have HO290 := n0_; have HO293 := n1_; have HO297 := n2_; have HO300 := n3_; have HO304 := n4_; have HO307 := n5_; have HO310 := n6_; have HB := n7_; clear n0_ n1_ n2_ n3_ n4_ n5_ n6_ n7_; clear hb ho31; obtain ⟨Ao32, co32, eo32⟩ := Kd.R_slice HO307.out; subst eo32; obtain ⟨Ao33, co33, eo33⟩ := Kd.R_slice HO310.out; subst eo33) | ((with_reducible refine gate_callee (f := 20) rfl ?_); refine goesL_ (some 26) rfl rfl Try.func20 (by kernel_rfl) rfl #[.slice Ao32 y305.length co32, .slice Ao33 y308.length co33, .int .i64 0] rfl (by (try simp only [List.map_toArray, List.map_cons, List.map_nil]); first | done | rfl | (simp only [List.length_drop, List.length_take]; rfl)) ?_; (with_reducible refine (apply_Between.calls k _ _ y305 _ _ y308 0 t311 t312 _ ?side1 ?side2 ?side3 ?side4 A3.out).mono ?_); (case side1 => repeat (first | exact (Kd.R_reads' HO307.out).2.2 | (with_reducible refine Kd.C_alloc ?_ _) | (with_reducible refine Kd.C_drewN ?_ _) | (with_reducible refine Kd.C_drew ?_))); (case side2 => exact (Kd.R_reads' HO307.out).2.1); (case side3 => repeat (first | exact (Kd.R_reads' HO310.out).2.2 | (with_reducible refine Kd.C_alloc ?_ _) | (with_reducible refine Kd.C_drewN ?_ _) | (with_reducible refine Kd.C_drew ?_))); (case side4 => exact (Kd.R_reads' HO310.out).2.1); rintro e w34 ⟨v313, rfl, ho0, hb⟩; refine ⟨_, rfl, ?_⟩; have n0_ := Aside0.mk (Kd.N_elder' (by (with_reducible repeat (first | apply Kd.N_alloc | apply Kd.N_drewN | apply Kd.N_drew)); exact HO290.out) (by first | exact Kd.N_base ho0 | exact Kd.S_base ho0) hb); have n1_ := Aside0.mk (Kd.R_below (by (with_reducible repeat (first | apply Kd.R_alloc | apply Kd.R_drewN | apply Kd.R_drew)); exact HO293.out) hb); have n2_ := Aside0.mk (Kd.R_below (by (with_reducible repeat (first | apply Kd.R_alloc | apply Kd.R_drewN | apply Kd.R_drew)); exact HO297.out) hb); have n3_ := Aside0.mk (Kd.R_below (by (with_reducible repeat (first | apply Kd.R_alloc | apply Kd.R_drewN | apply Kd.R_drew)); exact HO300.out) hb); have n4_ := Aside0.mk (Kd.R_below (by (with_reducible repeat (first | apply Kd.R_alloc | apply Kd.R_drewN | apply Kd.R_drew)); exact HO304.out) hb); have n5_ := Aside0.mk (Kd.R_below (by (with_reducible repeat (first | apply Kd.R_alloc | apply Kd.R_drewN | apply Kd.R_drew)); exact HO307.out) hb); have n6_ := Aside0.mk (Kd.R_below (by (with_reducible repeat (first | apply Kd.R_alloc | apply Kd.R_drewN | apply Kd.R_drew)); exact HO310.out) hb); have n7_ := Aside0.mk (Kd.N_lower (Kd.N_mono (ok' := fun k_ => some k_ ≠ (.slice Ao22 y288.length co22 : Value).ownBlock ∧ some k_ ≠ (.slice Ao21 y291.length co21 : Value).ownBlock ∧ some k_ ≠ (v296 : Value).ownBlock ∧ some k_ ≠ (.slice Ao26 y298.length co26 : Value).ownBlock ∧ some k_ ≠ (v303 : Value).ownBlock ∧ some k_ ≠ (.slice Ao32 y305.length co32 : Value).ownBlock ∧ some k_ ≠ (.slice Ao33 y308.length co33 : Value).ownBlock) (Kd.S_N (Kd.S_bound ho0)) (fun k_ hk_ => ⟨(Kd.fresh' (Kd.N_lt (by (with_reducible repeat (first | apply Kd.N_alloc | apply Kd.N_drewN | apply Kd.N_drew)); exact HO290.out)) k_ hk_.2.1), (Kd.fresh' (Kd.R_lt (by (with_reducible repeat (first | apply Kd.R_alloc | apply Kd.R_drewN | apply Kd.R_drew)); exact HO293.out)) k_ hk_.2.1), (Kd.fresh' (Kd.R_lt (by (with_reducible repeat (first | apply Kd.R_alloc | apply Kd.R_drewN | apply Kd.R_drew)); exact HO297.out)) k_ hk_.2.1), (Kd.fresh' (Kd.R_lt (by (with_reducible repeat (first | apply Kd.R_alloc | apply Kd.R_drewN | apply Kd.R_drew)); exact HO300.out)) k_ hk_.2.1), (Kd.fresh' (Kd.R_lt (by (with_reducible repeat (first | apply Kd.R_alloc | apply Kd.R_drewN | apply Kd.R_drew)); exact HO304.out)) k_ hk_.2.1), (Kd.fresh' (Kd.R_lt (by (with_reducible repeat (first | apply Kd.R_alloc | apply Kd.R_drewN | apply Kd.R_drew)); exact HO307.out)) k_ hk_.2.1), (Kd.fresh' (Kd.R_lt (by (with_reducible repeat (first | apply Kd.R_alloc | apply Kd.R_drewN | apply Kd.R_drew)); exact HO310.out)) k_ hk_.2.1)⟩)) (below_size (by repeat (first | (with_reducible first | exact HB.out | apply below_alloc | apply pw_below_drewN | apply below_drew1) | exact HB.out)))); have n8_ := Aside0.mk (below_step (by repeat (first | (with_reducible first | exact HB.out | apply below_alloc | apply pw_below_drewN | apply below_drew1) | exact HB.out)) hb); clear HO290; clear HO293; clear HO297; clear HO300; clear HO304; clear HO307; clear HO310; clear HB; have HO290 := n0_; have HO293 := n1_; have HO297 := n2_; have HO300 := n3_; have HO304 := n4_; have HO307 := n5_; have HO310 := n6_; have HO314 := n7_; have HB := n8_; clear n0_ n1_ n2_ n3_ n4_ n5_ n6_ n7_ n8_; (try clear hb); (try clear hb2); (try clear hk); (try clear hi); (try clear ho0)) | ((with_reducible refine gate_dst (N := 33) rfl ?_); (try (refine gate_guard (by rfl) ?_; dsimp only)); refine Kd.R_lit Kd.string _ 9 ?hg (N := 33) ?hd (xs := ([(⟨#[98]⟩ : ByteArray)] : List ByteArray)) (inner := [.string (⟨#[98]⟩ : ByteArray)]) (ok := fun _ => True) (okp := fun _ => True) ?hr ?hp (fun _ hk => hk) trivial (Below.refl _ _) (Nat.le_refl _) (by simp) ?_; (case hd => rfl); (case hg => rfl); (case hr => first | (go_simp; done) | (go_simp; rfl)); (case hp => exact (Reps.one (show Kd.M Kd.string _ _ _ (⟨#[98]⟩ : ByteArray) [.string (⟨#[98]⟩ : ByteArray)] from rfl) (Reps.none _ _))); intro v316 w35 ho36 hb hg_ hnew_; clear hg_ hnew_; (first | rw [← Ny315.out] at ho36 | (simp only [Int.reduceToNat] at ho36; rw [← Ny315.out] at ho36)); have n0_ := Aside0.mk (Kd.N_elder' (by (with_reducible repeat (first | apply Kd.N_alloc | apply Kd.N_drewN | apply Kd.N_drew)); exact HO290.out) (Kd.R_base ho36) hb); have n1_ := Aside0.mk (Kd.R_elder' (by (with_reducible repeat (first | apply Kd.R_alloc | apply Kd.R_drewN | apply Kd.R_drew)); exact HO293.out) (Kd.R_base ho36) hb); have n2_ := Aside0.mk (Kd.R_elder' (by (with_reducible repeat (first | apply Kd.R_alloc | apply Kd.R_drewN | apply Kd.R_drew)); exact HO297.out) (Kd.R_base ho36) hb); have n3_ := Aside0.mk (Kd.R_elder' (by (with_reducible repeat (first | apply Kd.R_alloc | apply Kd.R_drewN | apply Kd.R_drew)); exact HO300.out) (Kd.R_base ho36) hb); have n4_ := Aside0.mk (Kd.R_elder' (by (with_reducible repeat (first | apply Kd.R_alloc | apply Kd.R_drewN | apply Kd.R_drew)); exact HO304.out) (Kd.R_base ho36) hb); have n5_ := Aside0.mk (Kd.R_elder' (by (with_reducible repeat (first | apply Kd.R_alloc | apply Kd.R_drewN | apply Kd.R_drew)); exact HO307.out) (Kd.R_base ho36) hb); have n6_ := Aside0.mk (Kd.R_elder' (by (with_reducible repeat (first | apply Kd.R_alloc | apply Kd.R_drewN | apply Kd.R_drew)); exact HO310.out) (Kd.R_base ho36) hb); have n7_ := Aside0.mk (Kd.N_elder' (by (with_reducible repeat (first | apply Kd.N_alloc | apply Kd.N_drewN | apply Kd.N_drew)); exact HO314.out) (Kd.R_base ho36) hb); have n8_ := Aside0.mk (Kd.R_lower (Kd.R_new' (Kd.R_new' (Kd.R_new' (Kd.R_new' (Kd.R_new' (Kd.R_new' ho36 (Kd.R_lt (by (with_reducible repeat (first | apply Kd.R_alloc | apply Kd.R_drewN | apply Kd.R_drew)); exact HO293.out))) (Kd.R_lt (by (with_reducible repeat (first | apply Kd.R_alloc | apply Kd.R_drewN | apply Kd.R_drew)); exact HO297.out))) (Kd.R_lt (by (with_reducible repeat (first | apply Kd.R_alloc | apply Kd.R_drewN | apply Kd.R_drew)); exact HO300.out))) (Kd.R_lt (by (with_reducible repeat (first | apply Kd.R_alloc | apply Kd.R_drewN | apply Kd.R_drew)); exact HO304.out))) (Kd.R_lt (by (with_reducible repeat (first | apply Kd.R_alloc | apply Kd.R_drewN | apply Kd.R_drew)); exact HO307.out))) (Kd.R_lt (by (with_reducible repeat (first | apply Kd.R_alloc | apply Kd.R_drewN | apply Kd.R_drew)); exact HO310.out))) (below_size (by repeat (first | (with_reducible first | exact HB.out | apply below_alloc | apply pw_below_drewN | apply below_drew1) | exact HB.out)))); have n9_ := Aside0.mk (below_step (by repeat (first | (with_reducible first | exact HB.out | apply below_alloc | apply pw_below_drewN | apply below_drew1) | exact HB.out)) hb); clear HO290; clear HO293; clear HO297; clear HO300; clear HO304; clear HO307; clear HO310; clear HO314; clear HB; have HO290 := n0_; have HO293 := n1_; have HO297 := n2_; have HO300 := n3_; have HO304 := n4_; have HO307 := n5_; have HO310 := n6_; have HO314 := n7_; have HO317 := n8_; have HB := n9_; clear n0_ n1_ n2_ n3_ n4_ n5_ n6_ n7_ n8_ n9_; clear hb ho36; obtain ⟨Ao37, co37, eo37⟩ := Kd.R_slice HO297.out; subst eo37; obtain ⟨Ao38, co38, eo38⟩ := Kd.R_slice HO317.out; subst eo38) | (go_at_call 14; (with_reducible refine (grapevineref01_Texts.calls k _ _ t294 _ _ y315 true _ ?side1 ?side2 ?side3 ?side4 A5.out).mono ?_); (case side1 => repeat (first | exact (Kd.R_reads' HO297.out).2.2 | (with_reducible refine Kd.C_alloc ?_ _) | (with_reducible refine Kd.C_drewN ?_ _) | (with_reducible refine Kd.C_drew ?_))); (case side2 => exact (Kd.R_reads' HO297.out).2.1); (case side3 => repeat (first | exact (Kd.R_reads' HO317.out).2.2 | (with_reducible refine Kd.C_alloc ?_ _) | (with_reducible refine Kd.C_drewN ?_ _) | (with_reducible refine Kd.C_drew ?_))); (case side4 => exact (Kd.R_reads' HO317.out).2.1); rintro e w' ⟨rfl, ⟨nd, rfl⟩⟩; obtain ⟨Ao39, co39, eo39⟩ := Kd.N_slice HO314.out; subst eo39) | (go_at_call 17; (with_reducible refine (grapevineref05_Same.calls k _ _ t311 _ _ y288 true _ ?side1 ?side2 ?side3 ?side4 A9.out).mono ?_); (case side1 => repeat (first | exact (Kd.N_reads' HO314.out).2.2 | (with_reducible refine Kd.C_alloc ?_ _) | (with_reducible refine Kd.C_drewN ?_ _) | (with_reducible refine Kd.C_drew ?_))); (case side2 => exact (Kd.N_reads' HO314.out).2.1); (case side3 => repeat (first | exact (Kd.N_reads' HO290.out).2.2 | (with_reducible refine Kd.C_alloc ?_ _) | (with_reducible refine Kd.C_drewN ?_ _) | (with_reducible refine Kd.C_drew ?_))); (case side4 => exact (Kd.N_reads' HO290.out).2.1); rintro e w40 ⟨rfl, hb⟩; have n0_ := Aside0.mk (Kd.N_below (by (with_reducible repeat (first | apply Kd.N_alloc | apply Kd.N_drewN | apply Kd.N_drew)); exact HO290.out) hb); have n1_ := Aside0.mk (Kd.R_below (by (with_reducible repeat (first | apply Kd.R_alloc | apply Kd.R_drewN | apply Kd.R_drew)); exact HO293.out) hb); have n2_ := Aside0.mk (Kd.R_below (by (with_reducible repeat (first | apply Kd.R_alloc | apply Kd.R_drewN | apply Kd.R_drew)); exact HO297.out) hb); have n3_ := Aside0.mk (Kd.R_below (by (with_reducible repeat (first | apply Kd.R_alloc | apply Kd.R_drewN | apply Kd.R_drew)); exact HO300.out) hb); have n4_ := Aside0.mk (Kd.R_below (by (with_reducible repeat (first | apply Kd.R_alloc | apply Kd.R_drewN | apply Kd.R_drew)); exact HO304.out) hb); have n5_ := Aside0.mk (Kd.R_below (by (with_reducible repeat (first | apply Kd.R_alloc | apply Kd.R_drewN | apply Kd.R_drew)); exact HO307.out) hb); have n6_ := Aside0.mk (Kd.R_below (by (with_reducible repeat (first | apply Kd.R_alloc | apply Kd.R_drewN | apply Kd.R_drew)); exact HO310.out) hb); have n7_ := Aside0.mk (Kd.N_below (by (with_reducible repeat (first | apply Kd.N_alloc | apply Kd.N_drewN | apply Kd.N_drew)); exact HO314.out) hb); have n8_ := Aside0.mk (Kd.R_below (by (with_reducible repeat (first | apply Kd.R_alloc | apply Kd.R_drewN | apply Kd.R_drew)); exact HO317.out) hb); have n9_ := Aside0.mk (below_step (by repeat (first | (with_reducible first | exact HB.out | apply below_alloc | apply pw_below_drewN | apply below_drew1) | exact HB.out)) hb); clear HO290; clear HO293; clear HO297; clear HO300; clear HO304; clear HO307; clear HO310; clear HO314; clear HO317; clear HB; have HO290 := n0_; have HO293 := n1_; have HO297 := n2_; have HO300 := n3_; have HO304 := n4_; have HO307 := n5_; have HO310 := n6_; have HO314 := n7_; have HO317 := n8_; have HB := n9_; clear n0_ n1_ n2_ n3_ n4_ n5_ n6_ n7_ n8_ n9_; (try clear hb); (try clear hb2); (try clear hk); (try clear hi)) | (go_at_call 15; (with_reducible refine (apply_Right.calls k _ _ y288 true _ ?side1 ?side2 A11.out).mono ?_); (case side1 => repeat (first | exact (Kd.N_reads' HO290.out).2.2 | (with_reducible refine Kd.C_alloc ?_ _) | (with_reducible refine Kd.C_drewN ?_ _) | (with_reducible refine Kd.C_drew ?_))); (case side2 => exact (Kd.N_reads' HO290.out).2.1); rintro e w41 ⟨rfl, hb⟩; have n0_ := Aside0.mk (Kd.N_below (by (with_reducible repeat (first | apply Kd.N_alloc | apply Kd.N_drewN | apply Kd.N_drew)); exact HO290.out) hb); have n1_ := Aside0.mk (Kd.R_below (by (with_reducible repeat (first | apply Kd.R_alloc | apply Kd.R_drewN | apply Kd.R_drew)); exact HO293.out) hb); have n2_ := Aside0.mk (Kd.R_below (by (with_reducible repeat (first | apply Kd.R_alloc | apply Kd.R_drewN | apply Kd.R_drew)); exact HO297.out) hb); have n3_ := Aside0.mk (Kd.R_below (by (with_reducible repeat (first | apply Kd.R_alloc | apply Kd.R_drewN | apply Kd.R_drew)); exact HO300.out) hb); have n4_ := Aside0.mk (Kd.R_below (by (with_reducible repeat (first | apply Kd.R_alloc | apply Kd.R_drewN | apply Kd.R_drew)); exact HO304.out) hb); have n5_ := Aside0.mk (Kd.R_below (by (with_reducible repeat (first | apply Kd.R_alloc | apply Kd.R_drewN | apply Kd.R_drew)); exact HO307.out) hb); have n6_ := Aside0.mk (Kd.R_below (by (with_reducible repeat (first | apply Kd.R_alloc | apply Kd.R_drewN | apply Kd.R_drew)); exact HO310.out) hb); have n7_ := Aside0.mk (Kd.N_below (by (with_reducible repeat (first | apply Kd.N_alloc | apply Kd.N_drewN | apply Kd.N_drew)); exact HO314.out) hb); have n8_ := Aside0.mk (Kd.R_below (by (with_reducible repeat (first | apply Kd.R_alloc | apply Kd.R_drewN | apply Kd.R_drew)); exact HO317.out) hb); have n9_ := Aside0.mk (below_step (by repeat (first | (with_reducible first | exact HB.out | apply below_alloc | apply pw_below_drewN | apply below_drew1) | exact HB.out)) hb); clear HO290; clear HO293; clear HO297; clear HO300; clear HO304; clear HO307; clear HO310; clear HO314; clear HO317; clear HB; have HO290 := n0_; have HO293 := n1_; have HO297 := n2_; have HO300 := n3_; have HO304 := n4_; have HO307 := n5_; have HO310 := n6_; have HO314 := n7_; have HO317 := n8_; have HB := n9_; clear n0_ n1_ n2_ n3_ n4_ n5_ n6_ n7_ n8_ n9_; (try clear hb); (try clear hb2); (try clear hk); (try clear hi)) | (go_at_call 18; (with_reducible refine (apply_Turn.calls k _ _ y288 t321 _ ?side1 ?side2 A13.out).mono ?_); (case side1 => repeat (first | exact (Kd.N_reads' HO290.out).2.2 | (with_reducible refine Kd.C_alloc ?_ _) | (with_reducible refine Kd.C_drewN ?_ _) | (with_reducible refine Kd.C_drew ?_))); (case side2 => exact (Kd.N_reads' HO290.out).2.1); rintro e w42 ⟨v322, rfl, ho0, hb⟩; have n0_ := Aside0.mk (Kd.N_elder' (by (with_reducible repeat (first | apply Kd.N_alloc | apply Kd.N_drewN | apply Kd.N_drew)); exact HO290.out) (by first | exact Kd.N_base ho0 | exact Kd.S_base ho0) hb); have n1_ := Aside0.mk (Kd.R_below (by (with_reducible repeat (first | apply Kd.R_alloc | apply Kd.R_drewN | apply Kd.R_drew)); exact HO293.out) hb); have n2_ := Aside0.mk (Kd.R_below (by (with_reducible repeat (first | apply Kd.R_alloc | apply Kd.R_drewN | apply Kd.R_drew)); exact HO297.out) hb); have n3_ := Aside0.mk (Kd.R_below (by (with_reducible repeat (first | apply Kd.R_alloc | apply Kd.R_drewN | apply Kd.R_drew)); exact HO300.out) hb); have n4_ := Aside0.mk (Kd.R_below (by (with_reducible repeat (first | apply Kd.R_alloc | apply Kd.R_drewN | apply Kd.R_drew)); exact HO304.out) hb); have n5_ := Aside0.mk (Kd.R_below (by (with_reducible repeat (first | apply Kd.R_alloc | apply Kd.R_drewN | apply Kd.R_drew)); exact HO307.out) hb); have n6_ := Aside0.mk (Kd.R_below (by (with_reducible repeat (first | apply Kd.R_alloc | apply Kd.R_drewN | apply Kd.R_drew)); exact HO310.out) hb); have n7_ := Aside0.mk (Kd.N_elder' (by (with_reducible repeat (first | apply Kd.N_alloc | apply Kd.N_drewN | apply Kd.N_drew)); exact HO314.out) (by first | exact Kd.N_base ho0 | exact Kd.S_base ho0) hb); have n8_ := Aside0.mk (Kd.R_below (by (with_reducible repeat (first | apply Kd.R_alloc | apply Kd.R_drewN | apply Kd.R_drew)); exact HO317.out) hb); have n9_ := Aside0.mk (Kd.N_lower (Kd.N_mono (ok' := fun k_ => some k_ ≠ (.slice Ao22 y288.length co22 : Value).ownBlock ∧ some k_ ≠ (.slice Ao21 y291.length co21 : Value).ownBlock ∧ some k_ ≠ (.slice Ao37 t294.length co37 : Value).ownBlock ∧ some k_ ≠ (.slice Ao26 y298.length co26 : Value).ownBlock ∧ some k_ ≠ (v303 : Value).ownBlock ∧ some k_ ≠ (.slice Ao32 y305.length co32 : Value).ownBlock ∧ some k_ ≠ (.slice Ao33 y308.length co33 : Value).ownBlock ∧ some k_ ≠ (.slice Ao39 t311.length co39 : Value).ownBlock ∧ some k_ ≠ (.slice Ao38 y315.length co38 : Value).ownBlock) (Kd.S_N (Kd.S_bound ho0)) (fun k_ hk_ => ⟨(Kd.fresh' (Kd.N_lt (by (with_reducible repeat (first | apply Kd.N_alloc | apply Kd.N_drewN | apply Kd.N_drew)); exact HO290.out)) k_ hk_.2.1), (Kd.fresh' (Kd.R_lt (by (with_reducible repeat (first | apply Kd.R_alloc | apply Kd.R_drewN | apply Kd.R_drew)); exact HO293.out)) k_ hk_.2.1), (Kd.fresh' (Kd.R_lt (by (with_reducible repeat (first | apply Kd.R_alloc | apply Kd.R_drewN | apply Kd.R_drew)); exact HO297.out)) k_ hk_.2.1), (Kd.fresh' (Kd.R_lt (by (with_reducible repeat (first | apply Kd.R_alloc | apply Kd.R_drewN | apply Kd.R_drew)); exact HO300.out)) k_ hk_.2.1), (Kd.fresh' (Kd.R_lt (by (with_reducible repeat (first | apply Kd.R_alloc | apply Kd.R_drewN | apply Kd.R_drew)); exact HO304.out)) k_ hk_.2.1), (Kd.fresh' (Kd.R_lt (by (with_reducible repeat (first | apply Kd.R_alloc | apply Kd.R_drewN | apply Kd.R_drew)); exact HO307.out)) k_ hk_.2.1), (Kd.fresh' (Kd.R_lt (by (with_reducible repeat (first | apply Kd.R_alloc | apply Kd.R_drewN | apply Kd.R_drew)); exact HO310.out)) k_ hk_.2.1), (Kd.fresh' (Kd.N_lt (by (with_reducible repeat (first | apply Kd.N_alloc | apply Kd.N_drewN | apply Kd.N_drew)); exact HO314.out)) k_ hk_.2.1), (Kd.fresh' (Kd.R_lt (by (with_reducible repeat (first | apply Kd.R_alloc | apply Kd.R_drewN | apply Kd.R_drew)); exact HO317.out)) k_ hk_.2.1)⟩)) (below_size (by repeat (first | (with_reducible first | exact HB.out | apply below_alloc | apply pw_below_drewN | apply below_drew1) | exact HB.out)))); have n10_ := Aside0.mk (below_step (by repeat (first | (with_reducible first | exact HB.out | apply below_alloc | apply pw_below_drewN | apply below_drew1) | exact HB.out)) hb); clear HO290; clear HO293; clear HO297; clear HO300; clear HO304; clear HO307; clear HO310; clear HO314; clear HO317; clear HB; have HO290 := n0_; have HO293 := n1_; have HO297 := n2_; have HO300 := n3_; have HO304 := n4_; have HO307 := n5_; have HO310 := n6_; have HO314 := n7_; have HO317 := n8_; have HO323 := n9_; have HB := n10_; clear n0_ n1_ n2_ n3_ n4_ n5_ n6_ n7_ n8_ n9_ n10_; (try clear hb); (try clear hb2); (try clear hk); (try clear hi); (try clear ho0); obtain ⟨Ao43, co43, eo43⟩ := Kd.N_slice HO323.out; subst eo43))
       go_ret
       exact ⟨by first | rfl | (simp [errW_none, errW_some] <;> rfl) | (simp [*, errW_none, errW_some] <;> rfl), by repeat (first | (with_reducible first | exact HB.out | apply below_alloc | apply pw_below_drewN | apply below_drew1) | exact HB.out)⟩
      ·replace c12 := Bool.eq_false_iff.mpr c12
       subst c12
       have H1 : (some false) = some r := by rw [if_neg (show ¬ (false = true) by decide)] at H; exact H
       clear H
       have H := H1
       clear H1
       exact absurd (H.trans (congrArg some hrt_.out)) (by simp)
     ·replace c10 := Bool.eq_false_iff.mpr c10
      subst c10
      have H1 : (some false) = some r := by rw [if_neg (show ¬ (false = true) by decide)] at H; exact H
      clear H
      have H := H1
      clear H1
      exact absurd (H.trans (congrArg some hrt_.out)) (by simp)
    ·rw [if_neg c8] at H
     have c8b0 : (t312 == 0) = false := beq_eq_false_iff_ne.mpr c8
     have c8b1 : (t312 != 0) = true := bne_iff_ne.mpr c8
     exact absurd (H.trans (congrArg some hrt_.out)) (by simp)
   ·rw [if_neg c7] at H
    have c7b0 : (t302 == 6) = false := beq_eq_false_iff_ne.mpr c7
    have c7b1 : (t302 != 6) = true := bne_iff_ne.mpr c7
    exact absurd (H.trans (congrArg some hrt_.out)) (by simp)
  ·replace c6 := Bool.eq_false_iff.mpr c6
   subst c6
   have H1 : (some false) = some r := by rw [if_neg (show ¬ (false = true) by decide)] at H; exact H
   clear H
   have H := H1
   clear H1
   exact absurd (H.trans (congrArg some hrt_.out)) (by simp)
 ·rw [if_neg c4] at H
  have c4b0 : (t295 == 0) = false := beq_eq_false_iff_ne.mpr c4
  have c4b1 : (t295 != 0) = true := bne_iff_ne.mpr c4
  exact absurd (H.trans (congrArg some hrt_.out)) (by simp)
end Go.Proofs.Ytoaijganmfijmaa.Pr
-- shrunk
/-
The chapter's example of layer 7: it answers true.
-/
namespace Go.Proofs.Ytoaijganmfijmaa.Pr
open Go.RowKit Go.Proofs.YtoaijganmfijmaaW.PrintWords Go.Proofs.YtoaijganmfijmaaW.PrintLast Go.Proofs.YtoaijganmfijmaaW.PrintMore
set_option linter.unusedVariables false
set_option linter.unusedSimpArgs false
def grapevinelaw07_awake.f : Option Bool := some true
def ex1 : ByteArray := ⟨#[97]⟩
def ex2 : ByteArray := ⟨#[98]⟩
def ex3 : ByteArray := ⟨#[99]⟩
def exP : Ed := ⟨0, 1, [ex2]⟩
def exQ : Hk := ⟨0, 1, 0, 1, blkLines [⟨[], [ex1], [ex2]⟩] []⟩
theorem exQ_eq : exQ = ⟨0, 1, 0, 1, [(⟨#[45, 97]⟩ : ByteArray), (⟨#[43, 98]⟩ : ByteArray)]⟩ := by
 have hl : blkLines [⟨[], [ex1], [ex2]⟩] [] = [(⟨#[45, 97]⟩ : ByteArray), (⟨#[43, 98]⟩ : ByteArray)] := by decide
 rw [exQ, hl]
theorem exOk : BOk true [⟨[], [ex1], [ex2]⟩] := ⟨Or.inl (by simp), Or.inl rfl, trivial⟩
theorem exTakes : Takes [ex1] [ex2] 0 0 [exQ] := by
 refine ⟨0, 0, [⟨[], [ex1], [ex2]⟩], [], ⟨rfl, Nat.le_refl _, Nat.le_refl _, ?_, ?_, rfl, ?_, ?_, exOk⟩, ?_⟩
 ·simp [oldN]
 ·simp [newN]
 ·simp [oldN, oldL]
 ·simp [newN, newL]
 ·refine ⟨?_, ?_, ?_⟩ <;> simp [oldN, newN]
theorem exBetween : between [ex1] [ex2] = [exP] := by
 have e : ¬ ex1 = ex2 := by decide
 simp [between, midEdits, midOf, endOf, frontOf, common, steps, lcsLen, edits, addDel, addIns, opened, edLast, e, exP]
theorem exMake : makeH [ex1] 0 0 [exP] = [exQ] := by
 have e1 : fromH exP 0 = 0 := rfl
 have e2 : toH [ex1] exP [] 0 = 1 := rfl
 have e3 : linesH [ex1] 0 exP [] = blkLines [⟨[], [ex1], [ex2]⟩] [] := rfl
 rw [makeH, grp, makeH, hunkOf, e1, e2, e3]
 rfl
theorem exLines : exQ.f4.length = 2 := by rw [exQ_eq]; rfl
theorem exSmall (a : List ByteArray) (h : a.length ≤ 65536) : SmallA a [exQ] := by
 refine ⟨h, by simp, fun x hx => ?_⟩
 rw [List.mem_singleton] at hx
 subst hx
 exact ⟨by rw [exLines]; omega, by decide, by decide, by decide, by decide⟩
theorem exYes : apply_Apply.f [ex1] [exQ] = some ([ex2], 0) := by
 rw [apply_Apply.f, if_pos (exSmall _ (by simp)), takes_applyP exTakes]
theorem exNo : apply_Apply.f [ex3] [exQ] = some ([], 6) := by
 have hr := takes_right _ _ _ _ _ exTakes
 have h := (exact_all [ex1] [ex2] 0 ex3 (by simp) (by decide) [exQ] 0 0 [] exTakes (Nat.le_refl _)).1 ⟨exQ, List.mem_singleton.2 rfl, by decide, by decide⟩
 have e : [ex1].set 0 ex3 = [ex3] := rfl
 rw [e] at h
 rw [apply_Apply.f, if_pos (exSmall _ (by simp)), applyP, if_pos (by simpa using hr), h]
theorem exBig : BigL [exQ] := by
 intro x hx
 rw [List.mem_singleton] at hx
 subst hx
 refine ⟨by rw [exLines]; omega, fun s hs => ?_⟩
 rw [exQ_eq] at hs
 simp only [List.mem_cons, List.not_mem_nil, or_false] at hs
 rcases hs with rfl | rfl <;> show 2 ≤ _ <;> omega
theorem awake_ev : Ev (fun k => grapevinelaw07_awake0.f k) true := by
 unfold grapevinelaw07_awake0.f
 rw [← exQ_eq, show (⟨#[97]⟩ : ByteArray) = ex1 from rfl, show (⟨#[98]⟩ : ByteArray) = ex2 from rfl, show (⟨#[99]⟩ : ByteArray) = ex3 from rfl]
 have hm := Make_ev [ex1] [exP] 0 (by simp) (by simp) (by intro s hs; rw [List.mem_singleton] at hs; subst hs; show 1 ≤ _; omega) (by intro e he s hs; rw [List.mem_singleton] at he; subst he; rw [exP, List.mem_singleton] at hs; subst hs; show 1 ≤ _; omega) (by omega) (by omega) (by decide) (by decide)
 rw [exMake] at hm
 have hb : Ev (fun k => apply_Between.f k [ex1] [ex2] 0) ([exQ], 0) := by
  unfold apply_Between.f
  refine Ev.bind (a := [exP]) (Ev.none_of fun _ => by rw [diff_Diff.f, if_pos (by simp), exBetween]) ?_
  refine Ev.bind hm ?_
  exact Ev.now _
 have hr := takes_right _ _ _ _ _ exTakes
 refine Ev.bind (Ev.none_of fun _ => rfl) ?_
 refine Ev.bind (Ev.none_of fun _ => exYes) ?_
 refine Ev.bind (Ev.none_of fun _ => exNo) ?_
 refine Ev.bind hb ?_
 simp only [if_true]
 have ht := Texts_ev [ex2] [ex2] (by simp)
 rw [decide_eq_true rfl] at ht
 refine Ev.bind ht ?_
 simp only [if_true]
 refine Ev.bind (SameH_ev [exQ] (by simp) (by intro x hx; rw [List.mem_singleton] at hx; subst hx; rw [exLines]; omega)) ?_
 simp only [if_true]
 have hri := ARight_ev (exSmall [ex1] (by simp))
 rw [show rightP 0 0 [exQ] = true by simpa using hr] at hri
 refine Ev.bind hri ?_
 simp only [if_true]
 obtain ⟨m, hm1, hm2⟩ := takes_turn _ _ _ _ _ exTakes
 refine Ev.bind (ATurn_ev (exSmall [ex1] (by simp)) exBig (by simpa using hr) hm1) ?_
 rw [turned_len hm1]
 exact Ev.now _
theorem grapevinelaw07_awake.calls (r : Bool) (w : World) (h : grapevinelaw07_awake.f = some r) :
  Calls Try.prog 10 #[] w fun e w' => e = .returned (.bool r) ∧ Below w.heap.size w w' := by
 obtain rfl : true = r := Option.some.inj h
 obtain ⟨k, hk⟩ := awake_ev.rounds
 exact grapevinelaw07_awake0.calls k true w ⟨rfl⟩ hk
end Go.Proofs.Ytoaijganmfijmaa.Pr
-- shrunk
/-
How many lines hunks make.
-/
namespace Go.Proofs.Ytoaijganmfijmaa.Pr
open Go.RowKit Go.Proofs.YtoaijganmfijmaaW.PrintWords Go.Proofs.YtoaijganmfijmaaW.PrintLast Go.Proofs.YtoaijganmfijmaaW.PrintMore
set_option linter.unusedVariables false
set_option linter.unusedSimpArgs false
theorem allP_len (a : List ByteArray) (ha : a.length ≤ 65536) : ∀ (l : List Hk) (d : Nat) (out o : List ByteArray) (p : Nat), (∀ h ∈ l, h.f4.length ≤ 65536) → allP a d out l = some (o, p) → o.length ≤ out.length + l.length * 131072
 | [], d, out, o, p, _, h => by
  rw [allP] at h
  simp only [Option.some.injEq, Prod.mk.injEq] at h
  rw [← h.1]; simp
 | x :: l, d, out, o, p, hl, h => by
  rw [allP] at h
  cases e : oneP a d x.f0 x.f4 out with
  | none => rw [e] at h; cases h
  | some q =>
   rw [e] at h
   have ih := allP_len a ha l q.2 q.1 o p (fun h hh => hl h (List.mem_cons_of_mem _ hh)) h
   have hx := hl x List.mem_cons_self
   unfold oneP at e
   by_cases c : x.f0 ≤ a.length
   ·rw [if_pos c] at e
    have := (lineP_le a x.f4 _ _ q.1 q.2 (by omega) e).2
    rw [List.length_append, List.length_drop, List.length_take] at this
    rw [List.length_cons]
    omega
   ·rw [if_neg c] at e; cases e
theorem applyP_len {a : List ByteArray} {l : List Hk} (hs : SmallA a l) : (applyP a l).1.length ≤ 1073741824 := by
 unfold applyP
 by_cases c : rightP 0 0 l = true
 ·rw [if_pos c]
  cases e : allP a 0 [] l with
  | none => simp
  | some q =>
   have h := allP_len a hs.1 l 0 [] q.1 q.2 (fun h hh => (hs.2.2 h hh).1) e
   have h1 := hs.1
   have h2 := hs.2.1
   simp only [List.length_append, List.length_drop, List.length_nil] at h ⊢
   omega
 ·rw [if_neg c]; simp
theorem apply_some {a : List ByteArray} {l : List Hk} (hs : SmallA a l) : apply_Apply.f a l = some (applyP a l) := by rw [apply_Apply.f, if_pos hs]
end Go.Proofs.Ytoaijganmfijmaa.Pr
-- shrunk
-- written by a program of this session's (a turned copy of the kit's printer); Lean checks it
namespace Go.Proofs.Ytoaijganmfijmaa.Pr
open Go.RowKit Go.Proofs.YtoaijganmfijmaaW.PrintWords Go.Proofs.YtoaijganmfijmaaW.PrintLast Go.Proofs.YtoaijganmfijmaaW.PrintMore
attribute [local go_sem] max2_int min2_int max_two min_two max_three min_three max_four min_four   -- for this text's walks alone
set_option linter.unusedVariables false
set_option linter.unusedSimpArgs false

def grapevinelaw07_ApplyBehind.j0 : Nat → List ByteArray → List ByteArray → List (S41) → Bool → Bool → Option (Bool)
 | 0, _, _, _, _, _ => none
 | k + 1, x0, x1, x2, x7, x27 => if x27 = true then (some x7) else ((apply_Apply.f x0 x2).bind fun bt491 => (if bt491.2 = 0 then ((some (([] : List ByteArray) : List ByteArray)).bind fun y495 => (if y495.length + x0.length < 8796093022208 then ((some (y495 ++ x0 : List ByteArray)).bind fun y498 => (if y498.length + x1.length < 8796093022208 then ((apply_Apply.f (y498 ++ x1) x2).bind fun bt504 => (if x7 = true then (if bt504.2 = 0 then ((some (([] : List ByteArray) : List ByteArray)).bind fun y508 => (if y508.length + bt491.1.length < 8796093022208 then ((some (y508 ++ bt491.1 : List ByteArray)).bind fun y511 => (if y511.length + x1.length < 8796093022208 then ((grapevineref01_Texts.f k bt504.1 (y511 ++ x1)).bind fun t517 => (some t517)) else (none))) else (none))) else (some false)) else (some false))) else (none))) else (none))) else (some x7)))
def grapevinelaw07_ApplyBehind.f (k : Nat) (l0 : List ByteArray) (l1 : List ByteArray) (l2 : List (S41)) : Option (Bool) := (grapevinelaw07_awake.f).bind fun t489 => ((grapevineref05_Few.f k l2).bind fun t490 => (if t490 = true then (if (l0.length : Int) > 24 then (grapevinelaw07_ApplyBehind.j0 k l0 l1 l2 t489 true) else (grapevinelaw07_ApplyBehind.j0 k l0 l1 l2 t489 (decide ((l1.length : Int) > 20)))) else (grapevinelaw07_ApplyBehind.j0 k l0 l1 l2 t489 true)))
theorem grapevinelaw07_ApplyBehind.mono_l : ∀ k, (∀ y0 y1 y2 y3 y4, LeO (grapevinelaw07_ApplyBehind.j0 k y0 y1 y2 y3 y4) (grapevinelaw07_ApplyBehind.j0 (k + 1) y0 y1 y2 y3 y4))
 | 0 => fun _ _ _ _ _ r h => by simp [grapevinelaw07_ApplyBehind.j0] at h
 | k + 1 => by
  have ih0 := grapevinelaw07_ApplyBehind.mono_l k
  ·intro y0 y1 y2 y3 y4
   unfold grapevinelaw07_ApplyBehind.j0
   repeat' first
   | (with_reducible exact ih0 _ _ _ _ _)
   | (with_reducible exact grapevineref01_Texts.mono _ _ _)
   | (with_reducible exact grapevineref05_Few.mono _ _)
   | (with_reducible exact LeO.refl _)
   | (with_reducible exact LeO.none _)
   | (with_reducible refine LeO.ite ?_ ?_)
   | (with_reducible refine LeO.bind ?_ (fun _ => ?_))
   | exact ih0 _ _ _ _ _
   | exact grapevineref01_Texts.mono _ _ _
   | exact grapevineref05_Few.mono _ _
   | exact LeO.none _
   | refine LeO.ite ?_ ?_
   | refine LeO.bind ?_ (fun _ => ?_)
theorem grapevinelaw07_ApplyBehind.mono : ∀ a0 a1 a2 k, LeO (grapevinelaw07_ApplyBehind.f k a0 a1 a2) (grapevinelaw07_ApplyBehind.f (k + 1) a0 a1 a2) := by
 intro a0 a1 a2 k
 have ih0 := grapevinelaw07_ApplyBehind.mono_l k
 unfold grapevinelaw07_ApplyBehind.f
 repeat' first
   | (with_reducible exact ih0 _ _ _ _ _)
   | (with_reducible exact grapevineref01_Texts.mono _ _ _)
   | (with_reducible exact grapevineref05_Few.mono _ _)
   | (with_reducible exact LeO.refl _)
   | (with_reducible exact LeO.none _)
   | (with_reducible refine LeO.ite ?_ ?_)
   | (with_reducible refine LeO.bind ?_ (fun _ => ?_))
   | exact ih0 _ _ _ _ _
   | exact grapevineref01_Texts.mono _ _ _
   | exact grapevineref05_Few.mono _ _
   | exact LeO.none _
   | refine LeO.ite ?_ ?_
   | refine LeO.bind ?_ (fun _ => ?_)
set_option maxHeartbeats 8000000 in
set_option maxRecDepth 100000 in
theorem grapevinelaw07_ApplyBehind.calls (k : Nat) (A0 : Option Addr) (c0 : Nat) (l0 : List ByteArray) (A1 : Option Addr) (c1 : Nat) (l1 : List ByteArray) (A2 : Option Addr) (c2 : Nat) (l2 : List (S41)) (r : Bool) (w : World) (hrt_ : Aside0 (r = true)) (hr0 : Kd.C Kd.string w A0 l0.length l0) (hc0 : l0.length ≤ c0) (hr1 : Kd.C Kd.string w A1 l1.length l1) (hc1 : l1.length ≤ c1) (hr2 : Kd.C k41 w A2 l2.length l2) (hc2 : l2.length ≤ c2) (h : grapevinelaw07_ApplyBehind.f k l0 l1 l2 = some r) :
  Calls Try.prog 8 #[.slice A0 l0.length c0, .slice A1 l1.length c1, .slice A2 l2.length c2] w fun e w' => e = .returned (.bool r) ∧ Below w.heap.size w w' := by
 have HR0 := Aside0.mk hr0
 have HC0 := Aside0.mk hc0
 clear hr0 hc0
 have HR1 := Aside0.mk hr1
 have HC1 := Aside0.mk hc1
 clear hr1 hc1
 have HR2 := Aside0.mk hr2
 have HC2 := Aside0.mk hc2
 clear hr2 hc2
 have HB := Aside0.mk (Below.refl w.heap.size w)
 have H : ((grapevinelaw07_awake.f).bind fun t489 => ((grapevineref05_Few.f k l2).bind fun t490 => (if t490 = true then (if (l0.length : Int) > 24 then (grapevinelaw07_ApplyBehind.j0 k l0 l1 l2 t489 true) else (grapevinelaw07_ApplyBehind.j0 k l0 l1 l2 t489 (decide ((l1.length : Int) > 20)))) else (grapevinelaw07_ApplyBehind.j0 k l0 l1 l2 t489 true)))) = some r := h
 clear h
 replace H := Option.bind_eq_some_iff.mp H
 obtain ⟨t489, A40, H⟩ := H
 replace H : ((grapevineref05_Few.f k l2).bind fun t490 => (if t490 = true then (if (l0.length : Int) > 24 then (grapevinelaw07_ApplyBehind.j0 k l0 l1 l2 t489 true) else (grapevinelaw07_ApplyBehind.j0 k l0 l1 l2 t489 (decide ((l1.length : Int) > 20)))) else (grapevinelaw07_ApplyBehind.j0 k l0 l1 l2 t489 true))) = some r := H
 have A4 := Aside0.mk A40
 clear A40
 replace H := Option.bind_eq_some_iff.mp H
 obtain ⟨t490, A50, H⟩ := H
 replace H : (if t490 = true then (if (l0.length : Int) > 24 then (grapevinelaw07_ApplyBehind.j0 k l0 l1 l2 t489 true) else (grapevinelaw07_ApplyBehind.j0 k l0 l1 l2 t489 (decide ((l1.length : Int) > 20)))) else (grapevinelaw07_ApplyBehind.j0 k l0 l1 l2 t489 true)) = some r := H
 have A5 := Aside0.mk A50
 clear A50
 have HC6 := Aside0.mk H
 clear H
 go_enter Try.func8, Try.ntmps8
 go_upto_region 3 with (first | ((with_reducible refine gate_callee (f := 10) rfl ?_); refine goesL_ (some 13) rfl rfl Try.func10 (by kernel_rfl) rfl #[] rfl (by (try simp only [List.map_toArray, List.map_cons, List.map_nil]); first | done | rfl | (simp only [List.length_drop, List.length_take]; rfl)) ?_; (with_reducible refine (grapevinelaw07_awake.calls  t489 _ A4.out).mono ?_); rintro e w7 ⟨rfl, hb⟩; refine ⟨_, rfl, ?_⟩; have n0_ := Aside0.mk (below_step (by repeat (first | (with_reducible first | exact HB.out | apply below_alloc | apply pw_below_drewN | apply below_drew1) | exact HB.out)) hb); clear HB; have HB := n0_; clear n0_; (try clear hb); (try clear hb2); (try clear hk); (try clear hi)) | ((with_reducible refine gate_callee (f := 11) rfl ?_); refine goesL_ (some 15) rfl rfl Try.func11 (by kernel_rfl) rfl #[.slice A2 l2.length c2] rfl (by (try simp only [List.map_toArray, List.map_cons, List.map_nil]); first | done | rfl | (simp only [List.length_drop, List.length_take]; rfl)) ?_; (with_reducible refine (grapevineref05_Few.calls k _ _ l2 t490 _ ?side1 ?side2 A5.out).mono ?_); (case side1 => repeat (first | exact (Kd.C_below HR2.out HB.out) | (with_reducible refine Kd.C_alloc ?_ _) | (with_reducible refine Kd.C_drewN ?_ _) | (with_reducible refine Kd.C_drew ?_))); (case side2 => exact HC2.out); rintro e w8 ⟨rfl, hb⟩; refine ⟨_, rfl, ?_⟩; have n0_ := Aside0.mk (below_step (by repeat (first | (with_reducible first | exact HB.out | apply below_alloc | apply pw_below_drewN | apply below_drew1) | exact HB.out)) hb); clear HB; have HB := n0_; clear n0_; (try clear hb); (try clear hb2); (try clear hk); (try clear hi)))
 (try simp only [Act.put, List.setIfInBounds_toArray, List.set_cons_zero, List.set_cons_succ])
 go_cut [27] (fun v27 wc => ∃ (kq : Nat) (x27_5 : Bool), v27 = .bool x27_5 ∧ Aside0 (grapevinelaw07_ApplyBehind.j0 kq l0 l1 l2 t489 x27_5 = some r) ∧ Aside0 (kq ≤ k) ∧ Aside0 (Below w.heap.size w wc))
 case first =>
  have H := HC6.out
  clear HC6
  by_cases c9 : t490 = true
  ·subst c9
   have H1 : (if (l0.length : Int) > 24 then (grapevinelaw07_ApplyBehind.j0 k l0 l1 l2 t489 true) else (grapevinelaw07_ApplyBehind.j0 k l0 l1 l2 t489 (decide ((l1.length : Int) > 20)))) = some r := by rw [if_pos rfl] at H; exact H
   clear H
   have H := H1
   clear H1
   by_cases c10 : (l0.length : Int) > 24
   ·rw [if_pos c10] at H
    have c10b0 : decide (24 < (l0.length : Int)) = true := decide_eq_true c10
    have c10b1 : decide (24 < l0.length) = true := decide_eq_true (by omega)
    clear c10
    (first | rw [c10b0] | (simp only [i64_w, i32_w]; rw [c10b0]) | skip)
    have H' := Aside0.mk H
    clear H
    go_wp2
    go_meet
    case rel => exact ⟨_, (true), (by first | rfl | (simp; done) | (simp [*]; done)), H', ⟨by first | omega | exact Nat.le_refl _⟩, ⟨by repeat (first | (with_reducible first | exact HB.out | apply below_alloc | apply pw_below_drewN | apply below_drew1) | exact HB.out)⟩⟩
   ·rw [if_neg c10] at H
    have c10b0 : decide (24 < (l0.length : Int)) = false := decide_eq_false c10
    have c10b1 : decide (24 < l0.length) = false := decide_eq_false (by omega)
    clear c10
    (first | rw [c10b0] | (simp only [i64_w, i32_w]; rw [c10b0]) | skip)
    have H' := Aside0.mk H
    clear H
    go_wp2
    go_meet
    case rel => exact ⟨_, (decide ((l1.length : Int) > 20)), (by first | rfl | (simp; done) | (simp [*]; done)), H', ⟨by first | omega | exact Nat.le_refl _⟩, ⟨by repeat (first | (with_reducible first | exact HB.out | apply below_alloc | apply pw_below_drewN | apply below_drew1) | exact HB.out)⟩⟩
  ·replace c9 := Bool.eq_false_iff.mpr c9
   subst c9
   have H1 : (grapevinelaw07_ApplyBehind.j0 k l0 l1 l2 t489 true) = some r := by rw [if_neg (show ¬ (false = true) by decide)] at H; exact H
   clear H
   have H := H1
   clear H1
   have H' := Aside0.mk H
   clear H
   go_wp2
   go_meet
   case rel => exact ⟨_, (true), (by first | rfl | (simp; done) | (simp [*]; done)), H', ⟨by first | omega | exact Nat.le_refl _⟩, ⟨by repeat (first | (with_reducible first | exact HB.out | apply below_alloc | apply pw_below_drewN | apply below_drew1) | exact HB.out)⟩⟩
 case rest =>
  clear HC6
  try clear c1
  try clear c2
  try clear p2
  try clear c8
  try clear c9
  try clear c10
  try clear c10b0
  try clear c10b1
  obtain ⟨kq, x27_5, rfl, HA, HJ5, HB⟩ := hcut
  cases kq with
  | zero => exact absurd HA.out (by simp [grapevinelaw07_ApplyBehind.j0])
  | succ kj5 =>
   have H := HA.out
   clear HA
   simp only [grapevinelaw07_ApplyBehind.j0] at H
   by_cases c11 : x27_5 = true
   ·subst c11
    have H1 : (some t489) = some r := by rw [if_pos rfl] at H; exact H
    clear H
    have H := H1
    clear H1
    obtain rfl := Option.some.inj H
    go_wp2
    go_ret
    exact ⟨by first | rfl | (simp [errW_none, errW_some] <;> rfl) | (simp [*, errW_none, errW_some] <;> rfl), by repeat (first | (with_reducible first | exact HB.out | apply below_alloc | apply pw_below_drewN | apply below_drew1) | exact HB.out)⟩
   ·replace c11 := Bool.eq_false_iff.mpr c11
    subst c11
    have H1 : ((apply_Apply.f l0 l2).bind fun bt491 => (if bt491.2 = 0 then ((some (([] : List ByteArray) : List ByteArray)).bind fun y495 => (if y495.length + l0.length < 8796093022208 then ((some (y495 ++ l0 : List ByteArray)).bind fun y498 => (if y498.length + l1.length < 8796093022208 then ((apply_Apply.f (y498 ++ l1) l2).bind fun bt504 => (if t489 = true then (if bt504.2 = 0 then ((some (([] : List ByteArray) : List ByteArray)).bind fun y508 => (if y508.length + bt491.1.length < 8796093022208 then ((some (y508 ++ bt491.1 : List ByteArray)).bind fun y511 => (if y511.length + l1.length < 8796093022208 then ((grapevineref01_Texts.f kj5 bt504.1 (y511 ++ l1)).bind fun t517 => (some t517)) else (none))) else (none))) else (some false)) else (some false))) else (none))) else (none))) else (some t489))) = some r := by rw [if_neg (show ¬ (false = true) by decide)] at H; exact H
    clear H
    have H := H1
    clear H1
    replace H := Option.bind_eq_some_iff.mp H
    obtain ⟨⟨t491, t492⟩, A120, H⟩ := H
    replace H : (if t492 = 0 then ((some (([] : List ByteArray) : List ByteArray)).bind fun y495 => (if y495.length + l0.length < 8796093022208 then ((some (y495 ++ l0 : List ByteArray)).bind fun y498 => (if y498.length + l1.length < 8796093022208 then ((apply_Apply.f (y498 ++ l1) l2).bind fun bt504 => (if t489 = true then (if bt504.2 = 0 then ((some (([] : List ByteArray) : List ByteArray)).bind fun y508 => (if y508.length + t491.length < 8796093022208 then ((some (y508 ++ t491 : List ByteArray)).bind fun y511 => (if y511.length + l1.length < 8796093022208 then ((grapevineref01_Texts.f kj5 bt504.1 (y511 ++ l1)).bind fun t517 => (some t517)) else (none))) else (none))) else (some false)) else (some false))) else (none))) else (none))) else (some t489)) = some r := H
    have A12 := Aside0.mk A120
    clear A120
    by_cases c13 : t492 = 0
    ·rw [if_pos c13] at H
     have c13b0 : (t492 == 0) = true := beq_iff_eq.mpr c13
     have c13b1 : (t492 != 0) = false := bne_eq_false_iff_eq.mpr c13
     clear c13
     obtain ⟨y495, hy495⟩ : ∃ y_ : List ByteArray, y_ = (([] : List ByteArray)) := ⟨_, rfl⟩
     replace H : (if y495.length + l0.length < 8796093022208 then ((some (y495 ++ l0 : List ByteArray)).bind fun y498 => (if y498.length + l1.length < 8796093022208 then ((apply_Apply.f (y498 ++ l1) l2).bind fun bt504 => (if t489 = true then (if bt504.2 = 0 then ((some (([] : List ByteArray) : List ByteArray)).bind fun y508 => (if y508.length + t491.length < 8796093022208 then ((some (y508 ++ t491 : List ByteArray)).bind fun y511 => (if y511.length + l1.length < 8796093022208 then ((grapevineref01_Texts.f kj5 bt504.1 (y511 ++ l1)).bind fun t517 => (some t517)) else (none))) else (none))) else (some false)) else (some false))) else (none))) else (none)) = some r := by first | (rw [hy495]; with_reducible exact H) | (have H2_ := (Option.bind_some _ _).symm.trans H; rw [hy495]; with_reducible exact H2_) | (have H2_ := (Option.bind_some _ _).symm.trans H; with_reducible exact H2_) | with_reducible exact H | (rw [hy495]; exact H) | exact H
     have Ny495 := Aside0.mk hy495
     clear hy495
     by_cases c14 : y495.length + l0.length < 8796093022208
     ·rw [if_pos c14] at H
      have LMc14 := Aside0.mk c14
      clear c14
      obtain ⟨y498, hy498⟩ : ∃ y_ : List ByteArray, y_ = (y495 ++ l0) := ⟨_, rfl⟩
      replace H : (if y498.length + l1.length < 8796093022208 then ((apply_Apply.f (y498 ++ l1) l2).bind fun bt504 => (if t489 = true then (if bt504.2 = 0 then ((some (([] : List ByteArray) : List ByteArray)).bind fun y508 => (if y508.length + t491.length < 8796093022208 then ((some (y508 ++ t491 : List ByteArray)).bind fun y511 => (if y511.length + l1.length < 8796093022208 then ((grapevineref01_Texts.f kj5 bt504.1 (y511 ++ l1)).bind fun t517 => (some t517)) else (none))) else (none))) else (some false)) else (some false))) else (none)) = some r := by first | (rw [hy498]; with_reducible exact H) | (have H2_ := (Option.bind_some _ _).symm.trans H; rw [hy498]; with_reducible exact H2_) | (have H2_ := (Option.bind_some _ _).symm.trans H; with_reducible exact H2_) | with_reducible exact H | (rw [hy498]; exact H) | exact H
      have Ny498 := Aside0.mk hy498
      clear hy498
      by_cases c15 : y498.length + l1.length < 8796093022208
      ·rw [if_pos c15] at H
       have LMc15 := Aside0.mk c15
       clear c15
       obtain ⟨y501, hy501⟩ : ∃ y_ : List ByteArray, y_ = (y498 ++ l1) := ⟨_, rfl⟩
       replace H : ((apply_Apply.f y501 l2).bind fun bt504 => (if t489 = true then (if bt504.2 = 0 then ((some (([] : List ByteArray) : List ByteArray)).bind fun y508 => (if y508.length + t491.length < 8796093022208 then ((some (y508 ++ t491 : List ByteArray)).bind fun y511 => (if y511.length + l1.length < 8796093022208 then ((grapevineref01_Texts.f kj5 bt504.1 (y511 ++ l1)).bind fun t517 => (some t517)) else (none))) else (none))) else (some false)) else (some false))) = some r := by first | (rw [hy501]; with_reducible exact H) | (have H2_ := (Option.bind_some _ _).symm.trans H; rw [hy501]; with_reducible exact H2_) | (have H2_ := (Option.bind_some _ _).symm.trans H; with_reducible exact H2_) | with_reducible exact H | (rw [hy501]; exact H) | exact H
       have Ny501 := Aside0.mk hy501
       clear hy501
       replace H := Option.bind_eq_some_iff.mp H
       obtain ⟨⟨t504, t505⟩, A160, H⟩ := H
       replace H : (if t489 = true then (if t505 = 0 then ((some (([] : List ByteArray) : List ByteArray)).bind fun y508 => (if y508.length + t491.length < 8796093022208 then ((some (y508 ++ t491 : List ByteArray)).bind fun y511 => (if y511.length + l1.length < 8796093022208 then ((grapevineref01_Texts.f kj5 t504 (y511 ++ l1)).bind fun t517 => (some t517)) else (none))) else (none))) else (some false)) else (some false)) = some r := H
       have A16 := Aside0.mk A160
       clear A160
       by_cases c17 : t489 = true
       ·subst c17
        have H1 : (if t505 = 0 then ((some (([] : List ByteArray) : List ByteArray)).bind fun y508 => (if y508.length + t491.length < 8796093022208 then ((some (y508 ++ t491 : List ByteArray)).bind fun y511 => (if y511.length + l1.length < 8796093022208 then ((grapevineref01_Texts.f kj5 t504 (y511 ++ l1)).bind fun t517 => (some t517)) else (none))) else (none))) else (some false)) = some r := by rw [if_pos rfl] at H; exact H
        clear H
        have H := H1
        clear H1
        by_cases c18 : t505 = 0
        ·rw [if_pos c18] at H
         have c18b0 : (t505 == 0) = true := beq_iff_eq.mpr c18
         have c18b1 : (t505 != 0) = false := bne_eq_false_iff_eq.mpr c18
         clear c18
         obtain ⟨y508, hy508⟩ : ∃ y_ : List ByteArray, y_ = (([] : List ByteArray)) := ⟨_, rfl⟩
         replace H : (if y508.length + t491.length < 8796093022208 then ((some (y508 ++ t491 : List ByteArray)).bind fun y511 => (if y511.length + l1.length < 8796093022208 then ((grapevineref01_Texts.f kj5 t504 (y511 ++ l1)).bind fun t517 => (some t517)) else (none))) else (none)) = some r := by first | (rw [hy508]; with_reducible exact H) | (have H2_ := (Option.bind_some _ _).symm.trans H; rw [hy508]; with_reducible exact H2_) | (have H2_ := (Option.bind_some _ _).symm.trans H; with_reducible exact H2_) | with_reducible exact H | (rw [hy508]; exact H) | exact H
         have Ny508 := Aside0.mk hy508
         clear hy508
         by_cases c19 : y508.length + t491.length < 8796093022208
         ·rw [if_pos c19] at H
          have LMc19 := Aside0.mk c19
          clear c19
          obtain ⟨y511, hy511⟩ : ∃ y_ : List ByteArray, y_ = (y508 ++ t491) := ⟨_, rfl⟩
          replace H : (if y511.length + l1.length < 8796093022208 then ((grapevineref01_Texts.f kj5 t504 (y511 ++ l1)).bind fun t517 => (some t517)) else (none)) = some r := by first | (rw [hy511]; with_reducible exact H) | (have H2_ := (Option.bind_some _ _).symm.trans H; rw [hy511]; with_reducible exact H2_) | (have H2_ := (Option.bind_some _ _).symm.trans H; with_reducible exact H2_) | with_reducible exact H | (rw [hy511]; exact H) | exact H
          have Ny511 := Aside0.mk hy511
          clear hy511
          by_cases c20 : y511.length + l1.length < 8796093022208
          ·rw [if_pos c20] at H
           have LMc20 := Aside0.mk c20
           clear c20
           obtain ⟨y514, hy514⟩ : ∃ y_ : List ByteArray, y_ = (y511 ++ l1) := ⟨_, rfl⟩
           replace H : ((grapevineref01_Texts.f kj5 t504 y514).bind fun t517 => (some t517)) = some r := by first | (rw [hy514]; with_reducible exact H) | (have H2_ := (Option.bind_some _ _).symm.trans H; rw [hy514]; with_reducible exact H2_) | (have H2_ := (Option.bind_some _ _).symm.trans H; with_reducible exact H2_) | with_reducible exact H | (rw [hy514]; exact H) | exact H
           have Ny514 := Aside0.mk hy514
           clear hy514
           replace H := Option.bind_eq_some_iff.mp H
           obtain ⟨t517, A210, H⟩ := H
           replace H : (some t517) = some r := H
           have A21 := Aside0.mk A210
           clear A210
           obtain rfl := Option.some.inj H
           go_wp2_with (first | ((with_reducible refine gate_callee (f := 12) rfl ?_); refine goesL_ (some 32) rfl rfl Try.func12 (by kernel_rfl) rfl #[.slice A0 l0.length c0, .slice A2 l2.length c2] rfl (by (try simp only [List.map_toArray, List.map_cons, List.map_nil]); first | done | rfl | (simp only [List.length_drop, List.length_take]; rfl)) ?_; (with_reducible refine (apply_Apply.calls _ _ l0 _ _ l2 t491 t492 _ ?side1 ?side2 ?side3 ?side4 A12.out).mono ?_); (case side1 => repeat (first | exact (Kd.C_below HR0.out HB.out) | (with_reducible refine Kd.C_alloc ?_ _) | (with_reducible refine Kd.C_drewN ?_ _) | (with_reducible refine Kd.C_drew ?_))); (case side2 => exact HC0.out); (case side3 => repeat (first | exact (Kd.C_below HR2.out HB.out) | (with_reducible refine Kd.C_alloc ?_ _) | (with_reducible refine Kd.C_drewN ?_ _) | (with_reducible refine Kd.C_drew ?_))); (case side4 => exact HC2.out); rintro e w22 ⟨v493, rfl, ho0, hb⟩; refine ⟨_, rfl, ?_⟩; have n0_ := Aside0.mk (Kd.R_lower ho0 (below_size (by repeat (first | (with_reducible first | exact HB.out | apply below_alloc | apply pw_below_drewN | apply below_drew1) | exact HB.out)))); have n1_ := Aside0.mk (below_step (by repeat (first | (with_reducible first | exact HB.out | apply below_alloc | apply pw_below_drewN | apply below_drew1) | exact HB.out)) hb); clear HB; have HO494 := n0_; have HB := n1_; clear n0_ n1_; (try clear hb); (try clear hb2); (try clear hk); (try clear hi); (try clear ho0)) | ((with_reducible refine gate_dst (N := 39) rfl ?_); (try (refine gate_guard (by rfl) ?_; dsimp only)); refine Kd.R_lit Kd.string _ 9 ?hg (N := 39) ?hd (xs := ([] : List ByteArray)) (inner := []) (ok := fun _ => True) (okp := fun _ => True) ?hr ?hp (fun _ hk => hk) trivial (Below.refl _ _) (Nat.le_refl _) (by simp) ?_; (case hd => rfl); (case hg => rfl); (case hr => first | (go_simp; done) | (go_simp; rfl)); (case hp => exact (Reps.none _ _)); intro v496 w23 ho24 hb hg_ hnew_; clear hg_ hnew_; (first | rw [← Ny495.out] at ho24 | (simp only [Int.reduceToNat] at ho24; rw [← Ny495.out] at ho24)); have n0_ := Aside0.mk (Kd.R_elder' (by (with_reducible repeat (first | apply Kd.R_alloc | apply Kd.R_drewN | apply Kd.R_drew)); exact HO494.out) (Kd.R_base ho24) hb); have n1_ := Aside0.mk (Kd.R_lower (Kd.R_new' ho24 (Kd.R_lt (by (with_reducible repeat (first | apply Kd.R_alloc | apply Kd.R_drewN | apply Kd.R_drew)); exact HO494.out))) (below_size (by repeat (first | (with_reducible first | exact HB.out | apply below_alloc | apply pw_below_drewN | apply below_drew1) | exact HB.out)))); have n2_ := Aside0.mk (below_step (by repeat (first | (with_reducible first | exact HB.out | apply below_alloc | apply pw_below_drewN | apply below_drew1) | exact HB.out)) hb); clear HO494; clear HB; have HO494 := n0_; have HO497 := n1_; have HB := n2_; clear n0_ n1_ n2_; clear hb ho24) | ((with_reducible refine gate_builtin (b := .append) (xs := #[.tmp 39, .tmp 40]) rfl ?_); (try (refine gate_guard (by rfl) ?_; dsimp only)); at_builtin; refine Kd.R_append_rows Kd.string (w0 := w) w.heap.size rfl (.tmp 39) (.tmp 40) 22 9 (.string ⟨#[]⟩) 16 rfl Try.underlying22 info9 rfl (by decide) (by omega) v496 y495 l0 _ _ _ (fun k_ => some k_ ≠ (v493 : Value).ownBlock) (fun _ => False) rfl rfl ?aO ?aR (fun _ _ h => h) (fun _ h => h.elim) ?aF ?aB ?aS ?aL ?_; (case aR => repeat (first | exact (Kd.C_below HR0.out HB.out) | (with_reducible refine Kd.C_alloc ?_ _) | (with_reducible refine Kd.C_drewN ?_ _) | (with_reducible refine Kd.C_drew ?_))); (case aB => exact (by repeat (first | (with_reducible first | exact HB.out | apply below_alloc | apply pw_below_drewN | apply below_drew1) | exact HB.out))); (case aF => exact (fun k_ hk => Kd.fresh' (Kd.R_lt (by (with_reducible repeat (first | apply Kd.R_alloc | apply Kd.R_drewN | apply Kd.R_drew)); exact HO494.out)) k_ hk)); (case aO => exact (by (with_reducible repeat (first | apply Kd.R_alloc | apply Kd.R_drewN | apply Kd.R_drew)); exact Kd.R_mono HO497.out (fun _ hk => hk.2))); (case aS => exact (below_size (by repeat (first | (with_reducible first | exact HB.out | apply below_alloc | apply pw_below_drewN | apply below_drew1) | exact HB.out)))); (case aL => have := LMc14.out; omega); intro v499 w25 ho hb hg hat; rw [← Ny498.out] at ho; have n0_ := Aside0.mk (Kd.R_after (ok := (fun _ => True)) (by (with_reducible repeat (first | apply Kd.R_alloc | apply Kd.R_drewN | apply Kd.R_drew)); exact HO494.out) hg hat); have n1_ := Aside0.mk (hb); have n2_ := Aside0.mk (ho); clear HO494; clear HB; clear HO497; have HO494 := n0_; have HB := n1_; have HO500 := n2_; clear n0_ n1_ n2_; clear ho hb hg hat) | ((with_reducible refine gate_builtin (b := .append) (xs := #[.tmp 41, .tmp 42]) rfl ?_); (try (refine gate_guard (by rfl) ?_; dsimp only)); at_builtin; refine Kd.R_append_rows Kd.string (w0 := w) w.heap.size rfl (.tmp 41) (.tmp 42) 22 9 (.string ⟨#[]⟩) 16 rfl Try.underlying22 info9 rfl (by decide) (by omega) v499 y498 l1 _ _ _ (fun k_ => some k_ ≠ (v493 : Value).ownBlock) (fun _ => False) rfl rfl ?aO ?aR (fun _ _ h => h) (fun _ h => h.elim) ?aF ?aB ?aS ?aL ?_; (case aR => repeat (first | exact (Kd.C_below HR1.out HB.out) | (with_reducible refine Kd.C_alloc ?_ _) | (with_reducible refine Kd.C_drewN ?_ _) | (with_reducible refine Kd.C_drew ?_))); (case aB => exact (by repeat (first | (with_reducible first | exact HB.out | apply below_alloc | apply pw_below_drewN | apply below_drew1) | exact HB.out))); (case aF => exact (fun k_ hk => Kd.fresh' (Kd.R_lt (by (with_reducible repeat (first | apply Kd.R_alloc | apply Kd.R_drewN | apply Kd.R_drew)); exact HO494.out)) k_ hk)); (case aO => exact (by (with_reducible repeat (first | apply Kd.R_alloc | apply Kd.R_drewN | apply Kd.R_drew)); exact HO500.out)); (case aS => exact (below_size (by repeat (first | (with_reducible first | exact HB.out | apply below_alloc | apply pw_below_drewN | apply below_drew1) | exact HB.out)))); (case aL => have := LMc15.out; omega); intro v502 w26 ho hb hg hat; rw [← Ny501.out] at ho; have n0_ := Aside0.mk (Kd.R_after (ok := (fun _ => True)) (by (with_reducible repeat (first | apply Kd.R_alloc | apply Kd.R_drewN | apply Kd.R_drew)); exact HO494.out) hg hat); have n1_ := Aside0.mk (hb); have n2_ := Aside0.mk (ho); clear HO494; clear HB; clear HO500; have HO494 := n0_; have HB := n1_; have HO503 := n2_; clear n0_ n1_ n2_; clear ho hb hg hat; obtain ⟨Ao27, co27, eo27⟩ := Kd.R_slice HO503.out; subst eo27) | ((with_reducible refine gate_callee (f := 12) rfl ?_); refine goesL_ (some 45) rfl rfl Try.func12 (by kernel_rfl) rfl #[.slice Ao27 y501.length co27, .slice A2 l2.length c2] rfl (by (try simp only [List.map_toArray, List.map_cons, List.map_nil]); first | done | rfl | (simp only [List.length_drop, List.length_take]; rfl)) ?_; (with_reducible refine (apply_Apply.calls _ _ y501 _ _ l2 t504 t505 _ ?side1 ?side2 ?side3 ?side4 A16.out).mono ?_); (case side1 => repeat (first | exact (Kd.R_reads' HO503.out).2.2 | (with_reducible refine Kd.C_alloc ?_ _) | (with_reducible refine Kd.C_drewN ?_ _) | (with_reducible refine Kd.C_drew ?_))); (case side2 => exact (Kd.R_reads' HO503.out).2.1); (case side3 => repeat (first | exact (Kd.C_below HR2.out HB.out) | (with_reducible refine Kd.C_alloc ?_ _) | (with_reducible refine Kd.C_drewN ?_ _) | (with_reducible refine Kd.C_drew ?_))); (case side4 => exact HC2.out); rintro e w28 ⟨v506, rfl, ho0, hb⟩; refine ⟨_, rfl, ?_⟩; have n0_ := Aside0.mk (Kd.R_elder' (by (with_reducible repeat (first | apply Kd.R_alloc | apply Kd.R_drewN | apply Kd.R_drew)); exact HO494.out) (Kd.R_base ho0) hb); have n1_ := Aside0.mk (Kd.R_elder' (by (with_reducible repeat (first | apply Kd.R_alloc | apply Kd.R_drewN | apply Kd.R_drew)); exact HO503.out) (Kd.R_base ho0) hb); have n2_ := Aside0.mk (Kd.R_lower (Kd.R_new' (Kd.R_new' ho0 (Kd.R_lt (by (with_reducible repeat (first | apply Kd.R_alloc | apply Kd.R_drewN | apply Kd.R_drew)); exact HO494.out))) (Kd.R_lt (by (with_reducible repeat (first | apply Kd.R_alloc | apply Kd.R_drewN | apply Kd.R_drew)); exact HO503.out))) (below_size (by repeat (first | (with_reducible first | exact HB.out | apply below_alloc | apply pw_below_drewN | apply below_drew1) | exact HB.out)))); have n3_ := Aside0.mk (below_step (by repeat (first | (with_reducible first | exact HB.out | apply below_alloc | apply pw_below_drewN | apply below_drew1) | exact HB.out)) hb); clear HO494; clear HO503; clear HB; have HO494 := n0_; have HO503 := n1_; have HO507 := n2_; have HB := n3_; clear n0_ n1_ n2_ n3_; (try clear hb); (try clear hb2); (try clear hk); (try clear hi); (try clear ho0)) | ((with_reducible refine gate_dst (N := 55) rfl ?_); (try (refine gate_guard (by rfl) ?_; dsimp only)); refine Kd.R_lit Kd.string _ 9 ?hg (N := 55) ?hd (xs := ([] : List ByteArray)) (inner := []) (ok := fun _ => True) (okp := fun _ => True) ?hr ?hp (fun _ hk => hk) trivial (Below.refl _ _) (Nat.le_refl _) (by simp) ?_; (case hd => rfl); (case hg => rfl); (case hr => first | (go_simp; done) | (go_simp; rfl)); (case hp => exact (Reps.none _ _)); intro v509 w29 ho30 hb hg_ hnew_; clear hg_ hnew_; (first | rw [← Ny508.out] at ho30 | (simp only [Int.reduceToNat] at ho30; rw [← Ny508.out] at ho30)); have n0_ := Aside0.mk (Kd.R_elder' (by (with_reducible repeat (first | apply Kd.R_alloc | apply Kd.R_drewN | apply Kd.R_drew)); exact HO494.out) (Kd.R_base ho30) hb); have n1_ := Aside0.mk (Kd.R_elder' (by (with_reducible repeat (first | apply Kd.R_alloc | apply Kd.R_drewN | apply Kd.R_drew)); exact HO503.out) (Kd.R_base ho30) hb); have n2_ := Aside0.mk (Kd.R_elder' (by (with_reducible repeat (first | apply Kd.R_alloc | apply Kd.R_drewN | apply Kd.R_drew)); exact HO507.out) (Kd.R_base ho30) hb); have n3_ := Aside0.mk (Kd.R_lower (Kd.R_new' (Kd.R_new' (Kd.R_new' ho30 (Kd.R_lt (by (with_reducible repeat (first | apply Kd.R_alloc | apply Kd.R_drewN | apply Kd.R_drew)); exact HO494.out))) (Kd.R_lt (by (with_reducible repeat (first | apply Kd.R_alloc | apply Kd.R_drewN | apply Kd.R_drew)); exact HO503.out))) (Kd.R_lt (by (with_reducible repeat (first | apply Kd.R_alloc | apply Kd.R_drewN | apply Kd.R_drew)); exact HO507.out))) (below_size (by repeat (first | (with_reducible first | exact HB.out | apply below_alloc | apply pw_below_drewN | apply below_drew1) | exact HB.out)))); have n4_ := Aside0.mk (below_step (by repeat (first | (with_reducible first | exact HB.out | apply below_alloc | apply pw_below_drewN | apply below_drew1) | exact HB.out)) hb); clear HO494; clear HO503; clear HO507; clear HB; have HO494 := n0_; have HO503 := n1_; have HO507 := n2_; have HO510 := n3_; have HB := n4_; clear n0_ n1_ n2_ n3_ n4_; clear hb ho30; obtain ⟨Ao32, co32, eo32⟩ := Kd.R_slice HO494.out; subst eo32) | ((with_reducible refine gate_builtin (b := .append) (xs := #[.tmp 55, .tmp 56]) rfl ?_); (try (refine gate_guard (by rfl) ?_; dsimp only)); at_builtin; refine Kd.R_append_rows Kd.string (w0 := w) w.heap.size rfl (.tmp 55) (.tmp 56) 22 9 (.string ⟨#[]⟩) 16 rfl Try.underlying22 info9 rfl (by decide) (by omega) v509 y508 t491 _ _ _ (fun k_ => some k_ ≠ (.slice Ao32 t491.length co32 : Value).ownBlock ∧ some k_ ≠ (.slice Ao27 y501.length co27 : Value).ownBlock ∧ some k_ ≠ (v506 : Value).ownBlock) (fun _ => False) rfl rfl ?aO ?aR (fun _ _ h => h) (fun _ h => h.elim) ?aF ?aB ?aS ?aL ?_; (case aR => repeat (first | exact (Kd.R_reads' HO494.out).2.2 | (with_reducible refine Kd.C_alloc ?_ _) | (with_reducible refine Kd.C_drewN ?_ _) | (with_reducible refine Kd.C_drew ?_))); (case aB => exact (by repeat (first | (with_reducible first | exact HB.out | apply below_alloc | apply pw_below_drewN | apply below_drew1) | exact HB.out))); (case aF => exact (fun k_ hk => ⟨Kd.fresh' (Kd.R_lt (by (with_reducible repeat (first | apply Kd.R_alloc | apply Kd.R_drewN | apply Kd.R_drew)); exact HO494.out)) k_ hk, Kd.fresh' (Kd.R_lt (by (with_reducible repeat (first | apply Kd.R_alloc | apply Kd.R_drewN | apply Kd.R_drew)); exact HO503.out)) k_ hk, Kd.fresh' (Kd.R_lt (by (with_reducible repeat (first | apply Kd.R_alloc | apply Kd.R_drewN | apply Kd.R_drew)); exact HO507.out)) k_ hk⟩)); (case aO => exact (by (with_reducible repeat (first | apply Kd.R_alloc | apply Kd.R_drewN | apply Kd.R_drew)); exact Kd.R_mono HO510.out (fun _ hk => ⟨hk.1.1.2, ⟨hk.1.2, hk.2⟩⟩))); (case aS => exact (below_size (by repeat (first | (with_reducible first | exact HB.out | apply below_alloc | apply pw_below_drewN | apply below_drew1) | exact HB.out)))); (case aL => have := LMc19.out; omega); intro v512 w31 ho hb hg hat; rw [← Ny511.out] at ho; have n0_ := Aside0.mk (Kd.R_after (ok := (fun k_ => some k_ ≠ (.slice Ao27 y501.length co27 : Value).ownBlock ∧ some k_ ≠ (v506 : Value).ownBlock)) (by (with_reducible repeat (first | apply Kd.R_alloc | apply Kd.R_drewN | apply Kd.R_drew)); exact Kd.R_mono HO494.out (fun _ hk => ⟨⟨hk.1.1.2, hk.1.2⟩, hk.2⟩)) hg hat); have n1_ := Aside0.mk (Kd.R_after (ok := (fun k_ => some k_ ≠ (.slice Ao32 t491.length co32 : Value).ownBlock ∧ some k_ ≠ (v506 : Value).ownBlock)) (by (with_reducible repeat (first | apply Kd.R_alloc | apply Kd.R_drewN | apply Kd.R_drew)); exact HO503.out) hg hat); have n2_ := Aside0.mk (Kd.R_after (ok := (fun k_ => some k_ ≠ (.slice Ao32 t491.length co32 : Value).ownBlock ∧ some k_ ≠ (.slice Ao27 y501.length co27 : Value).ownBlock)) (by (with_reducible repeat (first | apply Kd.R_alloc | apply Kd.R_drewN | apply Kd.R_drew)); exact Kd.R_mono HO507.out (fun _ hk => ⟨⟨hk.1.1.2, hk.1.2⟩, hk.2⟩)) hg hat); have n3_ := Aside0.mk (hb); have n4_ := Aside0.mk (ho); clear HO494; clear HO503; clear HO507; clear HB; clear HO510; have HO494 := n0_; have HO503 := n1_; have HO507 := n2_; have HB := n3_; have HO513 := n4_; clear n0_ n1_ n2_ n3_ n4_; clear ho hb hg hat) | ((with_reducible refine gate_builtin (b := .append) (xs := #[.tmp 57, .tmp 58]) rfl ?_); (try (refine gate_guard (by rfl) ?_; dsimp only)); at_builtin; refine Kd.R_append_rows Kd.string (w0 := w) w.heap.size rfl (.tmp 57) (.tmp 58) 22 9 (.string ⟨#[]⟩) 16 rfl Try.underlying22 info9 rfl (by decide) (by omega) v512 y511 l1 _ _ _ (fun k_ => some k_ ≠ (.slice Ao32 t491.length co32 : Value).ownBlock ∧ some k_ ≠ (.slice Ao27 y501.length co27 : Value).ownBlock ∧ some k_ ≠ (v506 : Value).ownBlock) (fun _ => False) rfl rfl ?aO ?aR (fun _ _ h => h) (fun _ h => h.elim) ?aF ?aB ?aS ?aL ?_; (case aR => repeat (first | exact (Kd.C_below HR1.out HB.out) | (with_reducible refine Kd.C_alloc ?_ _) | (with_reducible refine Kd.C_drewN ?_ _) | (with_reducible refine Kd.C_drew ?_))); (case aB => exact (by repeat (first | (with_reducible first | exact HB.out | apply below_alloc | apply pw_below_drewN | apply below_drew1) | exact HB.out))); (case aF => exact (fun k_ hk => ⟨Kd.fresh' (Kd.R_lt (by (with_reducible repeat (first | apply Kd.R_alloc | apply Kd.R_drewN | apply Kd.R_drew)); exact HO494.out)) k_ hk, Kd.fresh' (Kd.R_lt (by (with_reducible repeat (first | apply Kd.R_alloc | apply Kd.R_drewN | apply Kd.R_drew)); exact HO503.out)) k_ hk, Kd.fresh' (Kd.R_lt (by (with_reducible repeat (first | apply Kd.R_alloc | apply Kd.R_drewN | apply Kd.R_drew)); exact HO507.out)) k_ hk⟩)); (case aO => exact (by (with_reducible repeat (first | apply Kd.R_alloc | apply Kd.R_drewN | apply Kd.R_drew)); exact HO513.out)); (case aS => exact (below_size (by repeat (first | (with_reducible first | exact HB.out | apply below_alloc | apply pw_below_drewN | apply below_drew1) | exact HB.out)))); (case aL => have := LMc20.out; omega); intro v515 w33 ho hb hg hat; rw [← Ny514.out] at ho; have n0_ := Aside0.mk (Kd.R_after (ok := (fun k_ => some k_ ≠ (.slice Ao27 y501.length co27 : Value).ownBlock ∧ some k_ ≠ (v506 : Value).ownBlock)) (by (with_reducible repeat (first | apply Kd.R_alloc | apply Kd.R_drewN | apply Kd.R_drew)); exact HO494.out) hg hat); have n1_ := Aside0.mk (Kd.R_after (ok := (fun k_ => some k_ ≠ (.slice Ao32 t491.length co32 : Value).ownBlock ∧ some k_ ≠ (v506 : Value).ownBlock)) (by (with_reducible repeat (first | apply Kd.R_alloc | apply Kd.R_drewN | apply Kd.R_drew)); exact HO503.out) hg hat); have n2_ := Aside0.mk (Kd.R_after (ok := (fun k_ => some k_ ≠ (.slice Ao32 t491.length co32 : Value).ownBlock ∧ some k_ ≠ (.slice Ao27 y501.length co27 : Value).ownBlock)) (by (with_reducible repeat (first | apply Kd.R_alloc | apply Kd.R_drewN | apply Kd.R_drew)); exact HO507.out) hg hat); have n3_ := Aside0.mk (hb); have n4_ := Aside0.mk (ho); clear HO494; clear HO503; clear HO507; clear HB; clear HO513; have HO494 := n0_; have HO503 := n1_; have HO507 := n2_; have HB := n3_; have HO516 := n4_; clear n0_ n1_ n2_ n3_ n4_; clear ho hb hg hat; obtain ⟨Ao34, co34, eo34⟩ := Kd.R_slice HO507.out; subst eo34; obtain ⟨Ao35, co35, eo35⟩ := Kd.R_slice HO516.out; subst eo35) | (go_at_call 14; (with_reducible refine (grapevineref01_Texts.calls kj5 _ _ t504 _ _ y514 t517 _ ?side1 ?side2 ?side3 ?side4 A21.out).mono ?_); (case side1 => repeat (first | exact (Kd.R_reads' HO507.out).2.2 | (with_reducible refine Kd.C_alloc ?_ _) | (with_reducible refine Kd.C_drewN ?_ _) | (with_reducible refine Kd.C_drew ?_))); (case side2 => exact (Kd.R_reads' HO507.out).2.1); (case side3 => repeat (first | exact (Kd.R_reads' HO516.out).2.2 | (with_reducible refine Kd.C_alloc ?_ _) | (with_reducible refine Kd.C_drewN ?_ _) | (with_reducible refine Kd.C_drew ?_))); (case side4 => exact (Kd.R_reads' HO516.out).2.1); rintro e w' ⟨rfl, ⟨nd, rfl⟩⟩))
           go_ret
           exact ⟨by first | rfl | (simp [errW_none, errW_some] <;> rfl) | (simp [*, errW_none, errW_some] <;> rfl), by repeat (first | (with_reducible first | exact HB.out | apply below_alloc | apply pw_below_drewN | apply below_drew1) | exact HB.out)⟩
          ·rw [if_neg c20] at H
           exact absurd H (by simp)
         ·rw [if_neg c19] at H
          exact absurd H (by simp)
        ·rw [if_neg c18] at H
         have c18b0 : (t505 == 0) = false := beq_eq_false_iff_ne.mpr c18
         have c18b1 : (t505 != 0) = true := bne_iff_ne.mpr c18
         exact absurd (H.trans (congrArg some hrt_.out)) (by simp)
       ·replace c17 := Bool.eq_false_iff.mpr c17
        subst c17
        have H1 : (some false) = some r := by rw [if_neg (show ¬ (false = true) by decide)] at H; exact H
        clear H
        have H := H1
        clear H1
        exact absurd (H.trans (congrArg some hrt_.out)) (by simp)
      ·rw [if_neg c15] at H
       exact absurd H (by simp)
     ·rw [if_neg c14] at H
      exact absurd H (by simp)
    ·rw [if_neg c13] at H
     have c13b0 : (t492 == 0) = false := beq_eq_false_iff_ne.mpr c13
     have c13b1 : (t492 != 0) = true := bne_iff_ne.mpr c13
     obtain rfl := Option.some.inj H
     go_wp2_with (((with_reducible refine gate_callee (f := 12) rfl ?_); refine goesL_ (some 32) rfl rfl Try.func12 (by kernel_rfl) rfl #[.slice A0 l0.length c0, .slice A2 l2.length c2] rfl (by (try simp only [List.map_toArray, List.map_cons, List.map_nil]); first | done | rfl | (simp only [List.length_drop, List.length_take]; rfl)) ?_; (with_reducible refine (apply_Apply.calls _ _ l0 _ _ l2 t491 t492 _ ?side1 ?side2 ?side3 ?side4 A12.out).mono ?_); (case side1 => repeat (first | exact (Kd.C_below HR0.out HB.out) | (with_reducible refine Kd.C_alloc ?_ _) | (with_reducible refine Kd.C_drewN ?_ _) | (with_reducible refine Kd.C_drew ?_))); (case side2 => exact HC0.out); (case side3 => repeat (first | exact (Kd.C_below HR2.out HB.out) | (with_reducible refine Kd.C_alloc ?_ _) | (with_reducible refine Kd.C_drewN ?_ _) | (with_reducible refine Kd.C_drew ?_))); (case side4 => exact HC2.out); rintro e w36 ⟨v493, rfl, ho0, hb⟩; refine ⟨_, rfl, ?_⟩; have n0_ := Aside0.mk (Kd.R_lower ho0 (below_size (by repeat (first | (with_reducible first | exact HB.out | apply below_alloc | apply pw_below_drewN | apply below_drew1) | exact HB.out)))); have n1_ := Aside0.mk (below_step (by repeat (first | (with_reducible first | exact HB.out | apply below_alloc | apply pw_below_drewN | apply below_drew1) | exact HB.out)) hb); clear HB; have HO494 := n0_; have HB := n1_; clear n0_ n1_; (try clear hb); (try clear hb2); (try clear hk); (try clear hi); (try clear ho0)))
     go_ret
     exact ⟨by first | rfl | (simp [errW_none, errW_some] <;> rfl) | (simp [*, errW_none, errW_some] <;> rfl), by repeat (first | (with_reducible first | exact HB.out | apply below_alloc | apply pw_below_drewN | apply below_drew1) | exact HB.out)⟩


end Go.Proofs.Ytoaijganmfijmaa.Pr
-- shrunk
/-
The law ApplyBehind answers true: the plain part.
-/
namespace Go.Proofs.Ytoaijganmfijmaa.Pr
open Go.RowKit Go.Proofs.YtoaijganmfijmaaW.PrintWords Go.Proofs.YtoaijganmfijmaaW.PrintLast Go.Proofs.YtoaijganmfijmaaW.PrintMore
set_option linter.unusedVariables false
set_option linter.unusedSimpArgs false
theorem ApplyBehind_pure (a m : List ByteArray) (l : List Hk) (ya : a.length * 16 ≤ 140737488351232) (za : ∀ s ∈ a, s.size ≤ 140737488351232) (ym : m.length * 16 ≤ 140737488351232) (zm : ∀ s ∈ m, s.size ≤ 140737488351232) (yl : l.length * 56 ≤ 140737488351232) (zl : ∀ h ∈ l, ∀ s ∈ h.f4, s.size ≤ 140737488351232) :
  ∃ k, grapevinelaw07_ApplyBehind.f k a m l = some true := by
 refine Ev.rounds ?_
 unfold grapevinelaw07_ApplyBehind.f
 have j0t : Ev (fun k => grapevinelaw07_ApplyBehind.j0 k a m l true true) true := by
  refine Ev.step (fun _ => grapevinelaw07_ApplyBehind.j0.eq_2 ..) ?_
  exact Ev.now _
 refine Ev.bind (Ev.none_of fun _ => rfl) ?_
 refine Ev.bind (FewA_ev l (by omega)) ?_
 cases hf : fewL l with
 | false =>
  simp only [Bool.false_eq_true, if_false]
  exact j0t
 | true =>
  simp only [if_true]
  by_cases c : (a.length : Int) > 24
  ·simp only [if_pos c]
   exact j0t
  simp only [if_neg c]
  by_cases c2 : (m.length : Int) > 20
  ·rw [decide_eq_true c2]
   exact j0t
  rw [decide_eq_false c2]
  have hS : SmallA a l := fewL_small (by omega) hf
  have hS2 : SmallA (a ++ m) l := fewL_small (by rw [List.length_append]; omega) hf
  have hlen := applyP_len hS
  refine Ev.step (fun _ => grapevinelaw07_ApplyBehind.j0.eq_2 ..) ?_
  simp only [Bool.false_eq_true, if_false, if_true]
  refine Ev.bind (Ev.none_of fun _ => apply_some hS) ?_
  by_cases c3 : (applyP a l).2 = 0
  ·simp only [if_pos c3]
   have hp := applyP_more a m (applyP a l).1 l (by rw [← c3])
   refine Ev.bind (Ev.none_of fun _ => rfl) ?_
   simp only [if_pos (show ([] : List ByteArray).length + a.length < 8796093022208 by simp; omega), List.nil_append]
   refine Ev.bind (Ev.none_of fun _ => rfl) ?_
   simp only [if_pos (show a.length + m.length < 8796093022208 by omega)]
   refine Ev.bind (Ev.none_of fun _ => (apply_some hS2).trans (congrArg some hp)) ?_
   simp only [if_true]
   refine Ev.bind (Ev.none_of fun _ => rfl) ?_
   simp only [if_pos (show ([] : List ByteArray).length + (applyP a l).1.length < 8796093022208 by simp; omega), List.nil_append]
   refine Ev.bind (Ev.none_of fun _ => rfl) ?_
   simp only [if_pos (show (applyP a l).1.length + m.length < 8796093022208 by omega)]
   have ht := Texts_ev ((applyP a l).1 ++ m) ((applyP a l).1 ++ m) (by rw [List.length_append]; omega)
   rw [decide_eq_true rfl] at ht
   refine Ev.bind ht ?_
   exact Ev.now _
  ·simp only [if_neg c3]
   exact Ev.now _
end Go.Proofs.Ytoaijganmfijmaa.Pr
-- shrunk
/-
Arguments that are slices of whatever kind, opened, with the sizes of all that is read behind them. General: no program in sight.
-/
namespace Go.Proofs.Ytoaijganmfijmaa.Pr
open Go.RowKit Go.Proofs.YtoaijganmfijmaaW.PrintWords Go.Proofs.YtoaijganmfijmaaW.PrintLast Go.Proofs.YtoaijganmfijmaaW.PrintMore
open Go.ChangeShapes Go.WideShapes Go.Deep
def Rz (P : Program) {α : Type} (d : Kd α) (S : α → Prop) (t : TypeId) : Prop :=
 ∀ (H : Type) (enc : TypeId × Value → H) (w : World) (base : Nat) (spare : Nat → Bool) (held : Bool) (fuel : Nat) (cs : List Value) (x : DataW H × List MemPlace),
  DataW.trod enc P w base spare held fuel t cs = some x → (∀ n ∈ x.1.weights P t, n ≤ 140737488351232) → ∃ y, d.K w y cs ∧ S y
theorem Rz.int {P : Program} {t : TypeId} {k : IntKind} (hu : P.underlying t = some (.int k)) : Rz P (Kd.int k) (fun n => (Lit.int k n).wf = true) t := fun H enc w base spare held fuel cs x h _ => by
 obtain ⟨n, rfl, _, hw⟩ := DataW.trod_int hu h
 exact ⟨n, rfl, hw⟩
theorem Rz.string {P : Program} {t : TypeId} (hu : P.underlying t = some .string) : Rz P Kd.string (fun s => s.size ≤ 140737488351232) t := fun H enc w base spare held fuel cs x h hz => by
 obtain ⟨s, rfl, rfl, _⟩ := DataW.trod_string hu h
 refine ⟨s, rfl, ?_⟩
 have := hz s.data.toList.length (by simp [DataW.weights])
 simpa using this
theorem weights_mem_all {H : Type} {P : Program} {e : TypeId} : ∀ {l : List (DataW H)} {d : DataW H}, d ∈ l → ∀ n ∈ d.weights P e, n ∈ DataW.weightsAll P e l
 | c :: l, d, hd, n, hn => by
  simp only [DataW.weightsAll, List.mem_append]
  rcases List.mem_cons.1 hd with rfl | hd
  ·exact Or.inl hn
  ·exact Or.inr (weights_mem_all hd n hn)
theorem Rz.slice {P : Program} {α : Type} {d : Kd α} {S : α → Prop} {t e : TypeId} {B : Nat} (hu : P.underlying t = some (.slice e)) (hc : P.cellsOf e = d.sz) (hB : P.bytesOf e = B) (hd : Rz P d S e) :
  Rz P (Kd.slice e d) (fun xs => xs.length * B ≤ 140737488351232 ∧ ∀ y ∈ xs, S y) t := fun H enc w base spare held fuel cs x h hz => by
 rcases open_slice hu h with ⟨rfl, _⟩ | ⟨a, len, cap, m, n, D, Pl, rfl, hb, hl, hm, hmm, rfl, hx⟩
 ·exact ⟨[], ⟨none, 0, rfl, Nat.le_refl _, rfl, by simp, fun h0 => absurd h0 (Nat.lt_irrefl _)⟩, by simp, by simp⟩
 ·have hlm : len ≤ m := by rw [hmm]; split <;> omega
  have hw0 : len * B ≤ 140737488351232 := by
   have h1 := hz ((((List.range len).map D).length + ((List.range (m - len)).map fun j => D (len + j)).length) * P.bytesOf e) (by simp [DataW.weights, hu])
   rw [hB] at h1
   simp only [List.length_map, List.length_range] at h1
   exact Nat.le_trans (Nat.mul_le_mul_right _ (Nat.le_add_right _ _)) h1
  have hw1 : ∀ i, i < len → ∀ q ∈ (D i).weights P e, q ≤ 140737488351232 := fun i hi q hq => by
   refine hz q ?_
   simp only [DataW.weights, hu, List.mem_cons, List.mem_append]
   exact Or.inr (Or.inl (weights_mem_all (List.mem_map.2 ⟨i, List.mem_range.2 hi, rfl⟩) q hq))
  have key : ∀ k, k ≤ len → ∃ xs : List α, xs.length = k ∧ (∀ y ∈ xs, S y) ∧ ∀ j p, xs[j]? = some p → ∃ c, c.length = d.sz ∧ d.K w p c ∧ ∀ i u, c[i]? = some u → w.cell? (a.add (j * d.sz + i)) = some u := by
   intro k
   induction k with
   | zero => exact fun _ => ⟨[], rfl, by simp, fun j p hj => by simp at hj⟩
   | succ k ih =>
    intro hk
    obtain ⟨xs, hxl, hS, hxs⟩ := ih (by omega)
    obtain ⟨cs', h1, h2⟩ := hx k (by omega)
    obtain ⟨y, hy, hSy⟩ := hd H enc w base spare held n cs' _ h2 (hw1 k (by omega))
    obtain ⟨_, hlen, hcell⟩ := World.cells?_some h1
    refine ⟨xs ++ [y], by simp [hxl], fun z hz => ?_, fun j p hj => ?_⟩
    ·rcases List.mem_append.1 hz with hz | hz
     ·exact hS z hz
     ·rw [List.mem_singleton.1 hz]; exact hSy
    by_cases hjk : j < k
    ·rw [List.getElem?_append_left (by omega)] at hj
     exact hxs j p hj
    ·have hj' : j = k := by
      have : j < (xs ++ [y]).length := by
       rcases Nat.lt_or_ge j (xs ++ [y]).length with h | h
       ·exact h
       ·rw [List.getElem?_eq_none h] at hj; cases hj
      simp [hxl] at this; omega
     subst hj'
     rw [List.getElem?_append_right (by omega), hxl, Nat.sub_self] at hj
     obtain rfl := Option.some.inj hj
     refine ⟨cs', by rw [hlen, hc], hy, fun i u hi => ?_⟩
     have hlt : i < cs'.length := by
      rcases Nat.lt_or_ge i cs'.length with h | h
      ·exact h
      ·rw [List.getElem?_eq_none h] at hi; cases hi
     rw [← hc, ← Deep.add_add, hcell i (by omega), hi]
  obtain ⟨xs, rfl, hS, hxs⟩ := key len (Nat.le_refl _)
  exact ⟨xs, ⟨some a, cap, rfl, hl, rfl, by unfold maxLen at hm; omega, fun _ => ⟨a, rfl, hxs⟩⟩, hw0, hS⟩
inductive RzF (P : Program) : {α : Type} → Kd α → (α → Prop) → Nat → List Field → Prop
 | last {α : Type} {d : Kd α} {S : α → Prop} {f : Field} {off : Nat} : f.offset = off → P.cellsOf f.type = d.sz → Rz P d S f.type → RzF P d S off [f]
 | cons {α β : Type} {a : Kd α} {b : Kd β} {S : α → Prop} {U : β → Prop} {f : Field} {fs : List Field} {off : Nat} : f.offset = off → P.cellsOf f.type = a.sz → Rz P a S f.type → RzF P b U (off + a.sz) fs → RzF P (Kd.pair a b) (fun x => S x.1 ∧ U x.2) off (f :: fs)
theorem RzF.read {P : Program} {H : Type} {enc : TypeId × Value → H} {w : World} {base : Nat} {spare : Nat → Bool} {held : Bool} {cs : List Value} {α : Type} {d : Kd α} {S : α → Prop} {off : Nat} {fs : List Field} (h : RzF P d S off fs) :
  (∀ f ∈ fs, ∃ n x, DataW.trod enc P w base spare held n f.type ((cs.drop f.offset).take (P.cellsOf f.type)) = some x ∧ ∀ q ∈ x.1.weights P f.type, q ≤ 140737488351232) → ∃ y, d.K w y ((cs.drop off).take d.sz) ∧ S y := by
 induction h with
 | last ho hc hr =>
  intro hf
  obtain ⟨n, x, hx, hw⟩ := hf _ (List.mem_singleton.2 rfl)
  rw [ho, hc] at hx
  exact hr H enc w base spare held n _ x hx hw
 | @cons α β a b S U f fs off ho hc hr _ ih =>
  intro hf
  obtain ⟨n, x, hx, hw⟩ := hf _ List.mem_cons_self
  rw [ho, hc] at hx
  obtain ⟨y0, h0, s0⟩ := hr H enc w base spare held n _ x hx hw
  obtain ⟨y1, h1, s1⟩ := ih (fun g hg => hf g (List.mem_cons_of_mem _ hg))
  refine ⟨(y0, y1), ⟨_, _, ?_, h0, h1⟩, s0, s1⟩
  show List.take (a.sz + b.sz) _ = _
  rw [List.take_add, List.drop_drop]
theorem Rz.struct {P : Program} {α : Type} {d : Kd α} {S : α → Prop} {t : TypeId} {fs : Array Field} (hu : P.underlying t = some (.struct fs)) (hc : P.cellsOf t = d.sz) (hf : RzF P d S 0 fs.toList) : Rz P d S t := fun H enc w base spare held fuel cs x h hz => by
 obtain ⟨xs, n, _, rfl, hl, hlen, hx⟩ := DataW.trod_struct hu h
 have h2 := hf.read (enc := enc) (w := w) (base := base) (spare := spare) (held := held) (cs := cs) (fun f hm => by
  obtain ⟨i, hi, he⟩ := List.mem_iff_getElem.1 hm
  have h3 := hx i f (by rw [← he]; simp)
  have hi' : i < xs.length := by rw [hlen]; simpa using hi
  rw [List.getElem?_eq_getElem hi'] at h3
  refine ⟨n, _, h3, fun q hq => hz q ?_⟩
  simp only [DataW.weights, hu]
  refine DataW.weights_mem_each (j := i) (t := f.type) (d := xs[i].1) ?_ ?_ q hq
  ·rw [List.getElem?_map, List.getElem?_eq_getElem hi, he]; rfl
  ·rw [List.getElem?_map, List.getElem?_eq_getElem hi']; rfl)
 rw [List.drop_zero, List.take_of_length_le (by omega)] at h2
 exact h2
theorem Rz.iso {P : Program} {α β : Type} {d : Kd α} {S : α → Prop} {f : β → α} {t : TypeId} (h : Rz P d S t) (g : ∀ y, ∃ x, f x = y) : Rz P (Kd.iso d f) (fun x => S (f x)) t := fun H enc w base spare held fuel cs x hx hz => by
 obtain ⟨y, hy, hs⟩ := h H enc w base spare held fuel cs x hx hz
 obtain ⟨z, rfl⟩ := g y
 exact ⟨z, hy, hs⟩
theorem Rz.mono {P : Program} {α : Type} {d : Kd α} {S S' : α → Prop} {t : TypeId} (h : Rz P d S t) (g : ∀ x, S x → S' x) : Rz P d S' t := fun H enc w base spare held fuel cs x hx hz => by
 obtain ⟨y, hy, hs⟩ := h H enc w base spare held fuel cs x hx hz
 exact ⟨y, hy, g y hs⟩
theorem open_rowz {P : Program} {α : Type} {d : Kd α} {S : α → Prop} {t e : TypeId} {B : Nat} {H : Type} {enc : TypeId × Value → H} {w : World} {r : Reach} {b0 base : Nat} {spare : Nat → Bool} {held : Bool} {v : Value} {x : DataW H} {ps : List MemPlace} {ts : List TypeId} {ds : List (DataW H)} {j : Nat}
  (hsz : (DataW.weightsEach P ts ds).all (· ≤ reachBytes) = true) (ht : ts[j]? = some t) (hdj : ds[j]? = some x)
  (hu : P.underlying t = some (.slice e)) (hc : P.cellsOf e = d.sz) (hB : P.bytesOf e = B) (hd : Rz P d S e) (hval : Value.okWide P w r b0 t v) (h : DataW.Trod enc P w base spare held t v x ps) :
  ∃ (A : Option Addr) (c : Nat) (xs : List α), v = .slice A xs.length c ∧ xs.length ≤ c ∧ d.C w A xs.length xs ∧ xs.length * B ≤ 140737488351232 ∧ ∀ y ∈ xs, S y := by
 obtain ⟨a, len, cap, rfl⟩ := okWide_slice hu hval
 obtain ⟨fuel, hf⟩ := h
 obtain ⟨xs, ⟨A, c, hcs, hl, hC⟩, hb, hS⟩ := Rz.slice hu hc hB hd H enc w base spare held fuel _ _ hf (fun n hn => by
  have := List.all_eq_true.1 hsz _ (DataW.weights_mem_each ht hdj n hn)
  have h2 : n ≤ reachBytes := by simpa using this
  exact h2)
 simp [Value.cells] at hcs
 obtain ⟨rfl, rfl, rfl⟩ := hcs
 exact ⟨_, _, xs, rfl, hl, hC, hb, hS⟩
end Go.Proofs.Ytoaijganmfijmaa.Pr
-- shrunk
/-
The kinds of the lower layers' arguments, with sizes: lists of texts, edits.
-/
namespace Go.Proofs.Ytoaijganmfijmaa.Pr
open Go.RowKit Go.Proofs.YtoaijganmfijmaaW.PrintWords Go.Proofs.YtoaijganmfijmaaW.PrintLast Go.Proofs.YtoaijganmfijmaaW.PrintMore
theorem rz_string : Rz Try.prog Kd.string (fun s => s.size ≤ 140737488351232) 9 := Rz.string (by kernel_rfl)
theorem rz_strings : Rz Try.prog (Kd.slice 9 Kd.string) (fun xs => xs.length * 16 ≤ 140737488351232 ∧ ∀ y ∈ xs, y.size ≤ 140737488351232) 22 := Rz.slice (e := 9) (by kernel_rfl) (by kernel_rfl) (by kernel_rfl) rz_string
theorem rz_int : Rz Try.prog (Kd.int .i64) (fun n => (Lit.int .i64 n).wf = true) 3 := Rz.int (by kernel_rfl)
end Go.Proofs.Ytoaijganmfijmaa.Pr
-- shrunk
/-
The kinds of layer 7's arguments, with sizes: hunks.
-/
namespace Go.Proofs.Ytoaijganmfijmaa.Pr
open Go.RowKit Go.Proofs.YtoaijganmfijmaaW.PrintWords Go.Proofs.YtoaijganmfijmaaW.PrintLast Go.Proofs.YtoaijganmfijmaaW.PrintMore
theorem rz_hunk : Rz Try.prog k41 (fun h => ∀ s ∈ h.f4, s.size ≤ 140737488351232) 41 := by
 refine Rz.mono (Rz.iso (Rz.struct Try.underlying41 (by kernel_rfl) (.cons rfl (by kernel_rfl) rz_int (.cons rfl (by kernel_rfl) rz_int (.cons rfl (by kernel_rfl) rz_int (.cons rfl (by kernel_rfl) rz_int (.last rfl (by kernel_rfl) rz_strings)))))) (fun y => ⟨⟨y.1, y.2.1, y.2.2.1, y.2.2.2.1, y.2.2.2.2⟩, rfl⟩)) ?_
 intro x h
 exact h.2.2.2.2.2
end Go.Proofs.Ytoaijganmfijmaa.Pr
-- shrunk
