/-
Several plain texts in one.
-/
import Derived.Test.YtoaijganmfijmaaK0
import Derived.Test.YtoaijganmfijmaaK4
import Derived.Test.YtoaijganmfijmaaK2
import Derived.Test.YtoaijganmfijmaaK3
import Derived.Test.YtoaijganmfijmaaK5
-- written by a program of this session's (a turned copy of the kit's printer); Lean checks it
namespace Go.Proofs.Ytoaijganmfijmaa.Pr
open Go.RowKit Go.Proofs.YtoaijganmfijmaaW.PrintWords Go.Proofs.YtoaijganmfijmaaW.PrintLast Go.Proofs.YtoaijganmfijmaaW.PrintMore
attribute [local go_sem] max2_int min2_int max_two min_two max_three min_three max_four min_four   -- for this text's walks alone
set_option linter.unusedVariables false
set_option linter.unusedSimpArgs false

def grapevinelaw07_awake0.f (k : Nat)  : Option (Bool) := (some (([(⟨0, 1, 0, 1, (([(⟨#[45, 97]⟩ : ByteArray), (⟨#[43, 98]⟩ : ByteArray)] : List ByteArray))⟩ : S41)] : List (S41)) : List (S41))).bind fun y288 => ((apply_Apply.f (([(⟨#[97]⟩ : ByteArray)] : List ByteArray)) y288).bind fun bt294 => ((apply_Apply.f (([(⟨#[99]⟩ : ByteArray)] : List ByteArray)) y288).bind fun bt301 => ((apply_Between.f k (([(⟨#[97]⟩ : ByteArray)] : List ByteArray)) (([(⟨#[98]⟩ : ByteArray)] : List ByteArray)) 0).bind fun bt311 => (if bt294.2 = 0 then ((grapevineref01_Texts.f k bt294.1 (([(⟨#[98]⟩ : ByteArray)] : List ByteArray))).bind fun t318 => (if t318 = true then (if bt301.2 = 6 then (if bt311.2 = 0 then ((grapevineref05_Same.f k bt311.1 y288).bind fun t319 => (if t319 = true then ((apply_Right.f k y288).bind fun t320 => (if t320 = true then ((apply_Turn.f k y288).bind fun t321 => (some ((t321.length : Int) == 1))) else (some false))) else (some false))) else (some false)) else (some false)) else (some false))) else (some false)))))
theorem grapevinelaw07_awake0.mono : ∀ k, LeO (grapevinelaw07_awake0.f k ) (grapevinelaw07_awake0.f (k + 1) ) := by
 intro  k
 unfold grapevinelaw07_awake0.f
 repeat' first
   | (with_reducible exact apply_Between.mono _ _ _ _)
   | (with_reducible exact apply_Right.mono _ _)
   | (with_reducible exact apply_Turn.mono _ _)
   | (with_reducible exact grapevineref01_Texts.mono _ _ _)
   | (with_reducible exact grapevineref05_Same.mono _ _ _)
   | (with_reducible exact LeO.refl _)
   | (with_reducible exact LeO.none _)
   | (with_reducible refine LeO.ite ?_ ?_)
   | (with_reducible refine LeO.bind ?_ (fun _ => ?_))
   | exact apply_Between.mono _ _ _ _
   | exact apply_Right.mono _ _
   | exact apply_Turn.mono _ _
   | exact grapevineref01_Texts.mono _ _ _
   | exact grapevineref05_Same.mono _ _ _
   | exact LeO.none _
   | refine LeO.ite ?_ ?_
   | refine LeO.bind ?_ (fun _ => ?_)
set_option maxHeartbeats 8000000 in
set_option maxRecDepth 100000 in
theorem grapevinelaw07_awake0.calls (k : Nat)  (r : Bool) (w : World) (hrt_ : Aside0 (r = true)) (h : grapevinelaw07_awake0.f k  = some r) :
  Calls Try.prog 10 #[] w fun e w' => e = .returned (.bool r) ∧ Below w.heap.size w w' := by
 have hu41 := Try.underlying41
 have HB := Aside0.mk (Below.refl w.heap.size w)
 have H : ((some (([(⟨0, 1, 0, 1, (([(⟨#[45, 97]⟩ : ByteArray), (⟨#[43, 98]⟩ : ByteArray)] : List ByteArray))⟩ : S41)] : List (S41)) : List (S41))).bind fun y288 => ((apply_Apply.f (([(⟨#[97]⟩ : ByteArray)] : List ByteArray)) y288).bind fun bt294 => ((apply_Apply.f (([(⟨#[99]⟩ : ByteArray)] : List ByteArray)) y288).bind fun bt301 => ((apply_Between.f k (([(⟨#[97]⟩ : ByteArray)] : List ByteArray)) (([(⟨#[98]⟩ : ByteArray)] : List ByteArray)) 0).bind fun bt311 => (if bt294.2 = 0 then ((grapevineref01_Texts.f k bt294.1 (([(⟨#[98]⟩ : ByteArray)] : List ByteArray))).bind fun t318 => (if t318 = true then (if bt301.2 = 6 then (if bt311.2 = 0 then ((grapevineref05_Same.f k bt311.1 y288).bind fun t319 => (if t319 = true then ((apply_Right.f k y288).bind fun t320 => (if t320 = true then ((apply_Turn.f k y288).bind fun t321 => (some ((t321.length : Int) == 1))) else (some false))) else (some false))) else (some false)) else (some false)) else (some false))) else (some false)))))) = some r := h
 clear h
 obtain ⟨y285, hy285⟩ : ∃ y_ : List ByteArray, y_ = (([(⟨#[45, 97]⟩ : ByteArray), (⟨#[43, 98]⟩ : ByteArray)] : List ByteArray)) := ⟨_, rfl⟩
 replace H : ((some (([(⟨0, 1, 0, 1, y285⟩ : S41)] : List (S41)) : List (S41))).bind fun y288 => ((apply_Apply.f (([(⟨#[97]⟩ : ByteArray)] : List ByteArray)) y288).bind fun bt294 => ((apply_Apply.f (([(⟨#[99]⟩ : ByteArray)] : List ByteArray)) y288).bind fun bt301 => ((apply_Between.f k (([(⟨#[97]⟩ : ByteArray)] : List ByteArray)) (([(⟨#[98]⟩ : ByteArray)] : List ByteArray)) 0).bind fun bt311 => (if bt294.2 = 0 then ((grapevineref01_Texts.f k bt294.1 (([(⟨#[98]⟩ : ByteArray)] : List ByteArray))).bind fun t318 => (if t318 = true then (if bt301.2 = 6 then (if bt311.2 = 0 then ((grapevineref05_Same.f k bt311.1 y288).bind fun t319 => (if t319 = true then ((apply_Right.f k y288).bind fun t320 => (if t320 = true then ((apply_Turn.f k y288).bind fun t321 => (some ((t321.length : Int) == 1))) else (some false))) else (some false))) else (some false)) else (some false)) else (some false))) else (some false)))))) = some r := by first | (rw [hy285]; with_reducible exact H) | (have H2_ := (Option.bind_some _ _).symm.trans H; rw [hy285]; with_reducible exact H2_) | (have H2_ := (Option.bind_some _ _).symm.trans H; with_reducible exact H2_) | with_reducible exact H | (rw [hy285]; exact H) | exact H
 have Ny285 := Aside0.mk hy285
 clear hy285
 obtain ⟨y288, hy288⟩ : ∃ y_ : List (S41), y_ = (([(⟨0, 1, 0, 1, y285⟩ : S41)] : List (S41))) := ⟨_, rfl⟩
 replace H : ((apply_Apply.f (([(⟨#[97]⟩ : ByteArray)] : List ByteArray)) y288).bind fun bt294 => ((apply_Apply.f (([(⟨#[99]⟩ : ByteArray)] : List ByteArray)) y288).bind fun bt301 => ((apply_Between.f k (([(⟨#[97]⟩ : ByteArray)] : List ByteArray)) (([(⟨#[98]⟩ : ByteArray)] : List ByteArray)) 0).bind fun bt311 => (if bt294.2 = 0 then ((grapevineref01_Texts.f k bt294.1 (([(⟨#[98]⟩ : ByteArray)] : List ByteArray))).bind fun t318 => (if t318 = true then (if bt301.2 = 6 then (if bt311.2 = 0 then ((grapevineref05_Same.f k bt311.1 y288).bind fun t319 => (if t319 = true then ((apply_Right.f k y288).bind fun t320 => (if t320 = true then ((apply_Turn.f k y288).bind fun t321 => (some ((t321.length : Int) == 1))) else (some false))) else (some false))) else (some false)) else (some false)) else (some false))) else (some false))))) = some r := by first | (rw [hy288]; with_reducible exact H) | (have H2_ := (Option.bind_some _ _).symm.trans H; rw [hy288]; with_reducible exact H2_) | (have H2_ := (Option.bind_some _ _).symm.trans H; with_reducible exact H2_) | with_reducible exact H | (rw [hy288]; exact H) | exact H
 have Ny288 := Aside0.mk hy288
 clear hy288
 obtain ⟨y291, hy291⟩ : ∃ y_ : List ByteArray, y_ = (([(⟨#[97]⟩ : ByteArray)] : List ByteArray)) := ⟨_, rfl⟩
 replace H : ((apply_Apply.f y291 y288).bind fun bt294 => ((apply_Apply.f (([(⟨#[99]⟩ : ByteArray)] : List ByteArray)) y288).bind fun bt301 => ((apply_Between.f k (([(⟨#[97]⟩ : ByteArray)] : List ByteArray)) (([(⟨#[98]⟩ : ByteArray)] : List ByteArray)) 0).bind fun bt311 => (if bt294.2 = 0 then ((grapevineref01_Texts.f k bt294.1 (([(⟨#[98]⟩ : ByteArray)] : List ByteArray))).bind fun t318 => (if t318 = true then (if bt301.2 = 6 then (if bt311.2 = 0 then ((grapevineref05_Same.f k bt311.1 y288).bind fun t319 => (if t319 = true then ((apply_Right.f k y288).bind fun t320 => (if t320 = true then ((apply_Turn.f k y288).bind fun t321 => (some ((t321.length : Int) == 1))) else (some false))) else (some false))) else (some false)) else (some false)) else (some false))) else (some false))))) = some r := by first | (rw [hy291]; with_reducible exact H) | (have H2_ := (Option.bind_some _ _).symm.trans H; rw [hy291]; with_reducible exact H2_) | (have H2_ := (Option.bind_some _ _).symm.trans H; with_reducible exact H2_) | with_reducible exact H | (rw [hy291]; exact H) | exact H
 have Ny291 := Aside0.mk hy291
 clear hy291
 replace H := Option.bind_eq_some_iff.mp H
 obtain ⟨⟨t294, t295⟩, A10, H⟩ := H
 replace H : ((apply_Apply.f (([(⟨#[99]⟩ : ByteArray)] : List ByteArray)) y288).bind fun bt301 => ((apply_Between.f k (([(⟨#[97]⟩ : ByteArray)] : List ByteArray)) (([(⟨#[98]⟩ : ByteArray)] : List ByteArray)) 0).bind fun bt311 => (if t295 = 0 then ((grapevineref01_Texts.f k t294 (([(⟨#[98]⟩ : ByteArray)] : List ByteArray))).bind fun t318 => (if t318 = true then (if bt301.2 = 6 then (if bt311.2 = 0 then ((grapevineref05_Same.f k bt311.1 y288).bind fun t319 => (if t319 = true then ((apply_Right.f k y288).bind fun t320 => (if t320 = true then ((apply_Turn.f k y288).bind fun t321 => (some ((t321.length : Int) == 1))) else (some false))) else (some false))) else (some false)) else (some false)) else (some false))) else (some false)))) = some r := H
 have A1 := Aside0.mk A10
 clear A10
 obtain ⟨y298, hy298⟩ : ∃ y_ : List ByteArray, y_ = (([(⟨#[99]⟩ : ByteArray)] : List ByteArray)) := ⟨_, rfl⟩
 replace H : ((apply_Apply.f y298 y288).bind fun bt301 => ((apply_Between.f k (([(⟨#[97]⟩ : ByteArray)] : List ByteArray)) (([(⟨#[98]⟩ : ByteArray)] : List ByteArray)) 0).bind fun bt311 => (if t295 = 0 then ((grapevineref01_Texts.f k t294 (([(⟨#[98]⟩ : ByteArray)] : List ByteArray))).bind fun t318 => (if t318 = true then (if bt301.2 = 6 then (if bt311.2 = 0 then ((grapevineref05_Same.f k bt311.1 y288).bind fun t319 => (if t319 = true then ((apply_Right.f k y288).bind fun t320 => (if t320 = true then ((apply_Turn.f k y288).bind fun t321 => (some ((t321.length : Int) == 1))) else (some false))) else (some false))) else (some false)) else (some false)) else (some false))) else (some false)))) = some r := by first | (rw [hy298]; with_reducible exact H) | (have H2_ := (Option.bind_some _ _).symm.trans H; rw [hy298]; with_reducible exact H2_) | (have H2_ := (Option.bind_some _ _).symm.trans H; with_reducible exact H2_) | with_reducible exact H | (rw [hy298]; exact H) | exact H
 have Ny298 := Aside0.mk hy298
 clear hy298
 replace H := Option.bind_eq_some_iff.mp H
 obtain ⟨⟨t301, t302⟩, A20, H⟩ := H
 replace H : ((apply_Between.f k (([(⟨#[97]⟩ : ByteArray)] : List ByteArray)) (([(⟨#[98]⟩ : ByteArray)] : List ByteArray)) 0).bind fun bt311 => (if t295 = 0 then ((grapevineref01_Texts.f k t294 (([(⟨#[98]⟩ : ByteArray)] : List ByteArray))).bind fun t318 => (if t318 = true then (if t302 = 6 then (if bt311.2 = 0 then ((grapevineref05_Same.f k bt311.1 y288).bind fun t319 => (if t319 = true then ((apply_Right.f k y288).bind fun t320 => (if t320 = true then ((apply_Turn.f k y288).bind fun t321 => (some ((t321.length : Int) == 1))) else (some false))) else (some false))) else (some false)) else (some false)) else (some false))) else (some false))) = some r := H
 have A2 := Aside0.mk A20
 clear A20
 obtain ⟨y305, hy305⟩ : ∃ y_ : List ByteArray, y_ = (([(⟨#[97]⟩ : ByteArray)] : List ByteArray)) := ⟨_, rfl⟩
 replace H : ((apply_Between.f k y305 (([(⟨#[98]⟩ : ByteArray)] : List ByteArray)) 0).bind fun bt311 => (if t295 = 0 then ((grapevineref01_Texts.f k t294 (([(⟨#[98]⟩ : ByteArray)] : List ByteArray))).bind fun t318 => (if t318 = true then (if t302 = 6 then (if bt311.2 = 0 then ((grapevineref05_Same.f k bt311.1 y288).bind fun t319 => (if t319 = true then ((apply_Right.f k y288).bind fun t320 => (if t320 = true then ((apply_Turn.f k y288).bind fun t321 => (some ((t321.length : Int) == 1))) else (some false))) else (some false))) else (some false)) else (some false)) else (some false))) else (some false))) = some r := by first | (rw [hy305]; with_reducible exact H) | (have H2_ := (Option.bind_some _ _).symm.trans H; rw [hy305]; with_reducible exact H2_) | (have H2_ := (Option.bind_some _ _).symm.trans H; with_reducible exact H2_) | with_reducible exact H | (rw [hy305]; exact H) | exact H
 have Ny305 := Aside0.mk hy305
 clear hy305
 obtain ⟨y308, hy308⟩ : ∃ y_ : List ByteArray, y_ = (([(⟨#[98]⟩ : ByteArray)] : List ByteArray)) := ⟨_, rfl⟩
 replace H : ((apply_Between.f k y305 y308 0).bind fun bt311 => (if t295 = 0 then ((grapevineref01_Texts.f k t294 (([(⟨#[98]⟩ : ByteArray)] : List ByteArray))).bind fun t318 => (if t318 = true then (if t302 = 6 then (if bt311.2 = 0 then ((grapevineref05_Same.f k bt311.1 y288).bind fun t319 => (if t319 = true then ((apply_Right.f k y288).bind fun t320 => (if t320 = true then ((apply_Turn.f k y288).bind fun t321 => (some ((t321.length : Int) == 1))) else (some false))) else (some false))) else (some false)) else (some false)) else (some false))) else (some false))) = some r := by first | (rw [hy308]; with_reducible exact H) | (have H2_ := (Option.bind_some _ _).symm.trans H; rw [hy308]; with_reducible exact H2_) | (have H2_ := (Option.bind_some _ _).symm.trans H; with_reducible exact H2_) | with_reducible exact H | (rw [hy308]; exact H) | exact H
 have Ny308 := Aside0.mk hy308
 clear hy308
 replace H := Option.bind_eq_some_iff.mp H
 obtain ⟨⟨t311, t312⟩, A30, H⟩ := H
 replace H : (if t295 = 0 then ((grapevineref01_Texts.f k t294 (([(⟨#[98]⟩ : ByteArray)] : List ByteArray))).bind fun t318 => (if t318 = true then (if t302 = 6 then (if t312 = 0 then ((grapevineref05_Same.f k t311 y288).bind fun t319 => (if t319 = true then ((apply_Right.f k y288).bind fun t320 => (if t320 = true then ((apply_Turn.f k y288).bind fun t321 => (some ((t321.length : Int) == 1))) else (some false))) else (some false))) else (some false)) else (some false)) else (some false))) else (some false)) = some r := H
 have A3 := Aside0.mk A30
 clear A30
 by_cases c4 : t295 = 0
 ·rw [if_pos c4] at H
  have c4b0 : (t295 == 0) = true := beq_iff_eq.mpr c4
  have c4b1 : (t295 != 0) = false := bne_eq_false_iff_eq.mpr c4
  clear c4
  obtain ⟨y315, hy315⟩ : ∃ y_ : List ByteArray, y_ = (([(⟨#[98]⟩ : ByteArray)] : List ByteArray)) := ⟨_, rfl⟩
  replace H : ((grapevineref01_Texts.f k t294 y315).bind fun t318 => (if t318 = true then (if t302 = 6 then (if t312 = 0 then ((grapevineref05_Same.f k t311 y288).bind fun t319 => (if t319 = true then ((apply_Right.f k y288).bind fun t320 => (if t320 = true then ((apply_Turn.f k y288).bind fun t321 => (some ((t321.length : Int) == 1))) else (some false))) else (some false))) else (some false)) else (some false)) else (some false))) = some r := by first | (rw [hy315]; with_reducible exact H) | (have H2_ := (Option.bind_some _ _).symm.trans H; rw [hy315]; with_reducible exact H2_) | (have H2_ := (Option.bind_some _ _).symm.trans H; with_reducible exact H2_) | with_reducible exact H | (rw [hy315]; exact H) | exact H
  have Ny315 := Aside0.mk hy315
  clear hy315
  replace H := Option.bind_eq_some_iff.mp H
  obtain ⟨t318, A50, H⟩ := H
  replace H : (if t318 = true then (if t302 = 6 then (if t312 = 0 then ((grapevineref05_Same.f k t311 y288).bind fun t319 => (if t319 = true then ((apply_Right.f k y288).bind fun t320 => (if t320 = true then ((apply_Turn.f k y288).bind fun t321 => (some ((t321.length : Int) == 1))) else (some false))) else (some false))) else (some false)) else (some false)) else (some false)) = some r := H
  have A5 := Aside0.mk A50
  clear A50
  by_cases c6 : t318 = true
  ·subst c6
   have H1 : (if t302 = 6 then (if t312 = 0 then ((grapevineref05_Same.f k t311 y288).bind fun t319 => (if t319 = true then ((apply_Right.f k y288).bind fun t320 => (if t320 = true then ((apply_Turn.f k y288).bind fun t321 => (some ((t321.length : Int) == 1))) else (some false))) else (some false))) else (some false)) else (some false)) = some r := by rw [if_pos rfl] at H; exact H
   clear H
   have H := H1
   clear H1
   by_cases c7 : t302 = 6
   ·rw [if_pos c7] at H
    have c7b0 : (t302 == 6) = true := beq_iff_eq.mpr c7
    have c7b1 : (t302 != 6) = false := bne_eq_false_iff_eq.mpr c7
    clear c7
    by_cases c8 : t312 = 0
    ·rw [if_pos c8] at H
     have c8b0 : (t312 == 0) = true := beq_iff_eq.mpr c8
     have c8b1 : (t312 != 0) = false := bne_eq_false_iff_eq.mpr c8
     clear c8
     replace H := Option.bind_eq_some_iff.mp H
     obtain ⟨t319, A90, H⟩ := H
     replace H : (if t319 = true then ((apply_Right.f k y288).bind fun t320 => (if t320 = true then ((apply_Turn.f k y288).bind fun t321 => (some ((t321.length : Int) == 1))) else (some false))) else (some false)) = some r := H
     have A9 := Aside0.mk A90
     clear A90
     by_cases c10 : t319 = true
     ·subst c10
      have H1 : ((apply_Right.f k y288).bind fun t320 => (if t320 = true then ((apply_Turn.f k y288).bind fun t321 => (some ((t321.length : Int) == 1))) else (some false))) = some r := by rw [if_pos rfl] at H; exact H
      clear H
      have H := H1
      clear H1
      replace H := Option.bind_eq_some_iff.mp H
      obtain ⟨t320, A110, H⟩ := H
      replace H : (if t320 = true then ((apply_Turn.f k y288).bind fun t321 => (some ((t321.length : Int) == 1))) else (some false)) = some r := H
      have A11 := Aside0.mk A110
      clear A110
      by_cases c12 : t320 = true
      ·subst c12
       have H1 : ((apply_Turn.f k y288).bind fun t321 => (some ((t321.length : Int) == 1))) = some r := by rw [if_pos rfl] at H; exact H
       clear H
       have H := H1
       clear H1
       replace H := Option.bind_eq_some_iff.mp H
       obtain ⟨t321, A130, H⟩ := H
       replace H : (some ((t321.length : Int) == 1)) = some r := H
       have A13 := Aside0.mk A130
       clear A130
       obtain rfl := Option.some.inj H
       go_enter Try.func10, Try.ntmps10
       go_wp2_with (first | ((with_reducible refine gate_dst (N := 8) rfl ?_); (try (refine gate_guard (by rfl) ?_; dsimp only)); refine Kd.R_lit Kd.string _ 9 ?hg (N := 8) ?hd (xs := ([(⟨#[45, 97]⟩ : ByteArray), (⟨#[43, 98]⟩ : ByteArray)] : List ByteArray)) (inner := [.string (⟨#[45, 97]⟩ : ByteArray), .string (⟨#[43, 98]⟩ : ByteArray)]) (ok := fun _ => True) (okp := fun _ => True) ?hr ?hp (fun _ hk => hk) trivial (Below.refl _ _) (Nat.le_refl _) (by simp) ?_; (case hd => rfl); (case hg => rfl); (case hr => first | (go_simp; done) | (go_simp; rfl)); (case hp => exact (Reps.one (show Kd.M Kd.string _ _ _ (⟨#[45, 97]⟩ : ByteArray) [.string (⟨#[45, 97]⟩ : ByteArray)] from rfl) (Reps.one (show Kd.M Kd.string _ _ _ (⟨#[43, 98]⟩ : ByteArray) [.string (⟨#[43, 98]⟩ : ByteArray)] from rfl) (Reps.none _ _)))); intro v286 w14 ho15 hb hg_ hnew_; clear hg_ hnew_; (first | rw [← Ny285.out] at ho15 | (simp only [Int.reduceToNat] at ho15; rw [← Ny285.out] at ho15)); have n0_ := Aside0.mk (Kd.R_lower ho15 (below_size (by repeat (first | (with_reducible first | exact HB.out | apply below_alloc | apply pw_below_drewN | apply below_drew1) | exact HB.out)))); have n1_ := Aside0.mk (below_step (by repeat (first | (with_reducible first | exact HB.out | apply below_alloc | apply pw_below_drewN | apply below_drew1) | exact HB.out)) hb); clear HB; have HO287 := n0_; have HB := n1_; clear n0_ n1_; clear hb ho15; obtain ⟨Ao16, co16, eo16⟩ := Kd.R_slice HO287.out; subst eo16) | ((with_reducible refine gate_dst (N := 10) rfl ?_); (try (refine gate_guard (by rfl) ?_; dsimp only)); refine Kd.N_lit k41 _ 41 ?hg (N' := 10) ?hd (xs := ([(⟨0, 1, 0, 1, y285⟩ : S41)] : List (S41))) (inner := [.int .i64 0, .int .i64 1, .int .i64 0, .int .i64 1, .slice Ao16 y285.length co16]) (ok := (fun _ => True)) (okp := (fun _ => True)) ?hr ?hp (fun _ hk => hk) ((show ∀ k_, w14.heap.size ≤ k_ → (fun _ => True) k_ from fun k_ hk => trivial) _ (Nat.le_refl _)) (Below.refl _ _) (Nat.le_refl _) (by simp) ?_; (case hd => rfl); (case hg => rfl); (case hr => first | (go_simp; done) | (go_simp; rfl)); (case hp => exact (Reps.c5 (show Kd.FK k41 _ _ (⟨0, 1, 0, 1, y285⟩ : S41) [.int .i64 0, .int .i64 1, .int .i64 0, .int .i64 1, .slice Ao16 y285.length co16] from (k41_mkF _ _ (⟨0, 1, 0, 1, y285⟩ : S41) (Kd.R_reads' (Kd.R_mono (ok' := (fun _ => True)) (HO287.out) (fun k_ hk => trivial))).2.1 (Kd.R_F (Kd.R_mono (ok' := (fun _ => True)) (HO287.out) (fun k_ hk => trivial))))) (Reps.none _ _))); intro v289 w17 ho18 hb hg_ hnew_; clear hg_ hnew_; (first | rw [← Ny288.out] at ho18 | (simp only [Int.reduceToNat] at ho18; rw [← Ny288.out] at ho18)); have n0_ := Aside0.mk (Kd.N_lower ho18 (below_size (by repeat (first | (with_reducible first | exact HB.out | apply below_alloc | apply pw_below_drewN | apply below_drew1) | exact HB.out)))); have n1_ := Aside0.mk (below_step (by repeat (first | (with_reducible first | exact HB.out | apply below_alloc | apply pw_below_drewN | apply below_drew1) | exact HB.out)) hb); clear HB; clear HO287; have HO290 := n0_; have HB := n1_; clear n0_ n1_; clear hb ho18) | ((with_reducible refine gate_dst (N := 12) rfl ?_); (try (refine gate_guard (by rfl) ?_; dsimp only)); refine Kd.R_lit Kd.string _ 9 ?hg (N := 12) ?hd (xs := ([(⟨#[97]⟩ : ByteArray)] : List ByteArray)) (inner := [.string (⟨#[97]⟩ : ByteArray)]) (ok := fun _ => True) (okp := fun _ => True) ?hr ?hp (fun _ hk => hk) trivial (Below.refl _ _) (Nat.le_refl _) (by simp) ?_; (case hd => rfl); (case hg => rfl); (case hr => first | (go_simp; done) | (go_simp; rfl)); (case hp => exact (Reps.one (show Kd.M Kd.string _ _ _ (⟨#[97]⟩ : ByteArray) [.string (⟨#[97]⟩ : ByteArray)] from rfl) (Reps.none _ _))); intro v292 w19 ho20 hb hg_ hnew_; clear hg_ hnew_; (first | rw [← Ny291.out] at ho20 | (simp only [Int.reduceToNat] at ho20; rw [← Ny291.out] at ho20)); have n0_ := Aside0.mk (Kd.N_elder' (by (with_reducible repeat (first | apply Kd.N_alloc | apply Kd.N_drewN | apply Kd.N_drew)); exact HO290.out) (Kd.R_base ho20) hb); have n1_ := Aside0.mk (Kd.R_lower ho20 (below_size (by repeat (first | (with_reducible first | exact HB.out | apply below_alloc | apply pw_below_drewN | apply below_drew1) | exact HB.out)))); have n2_ := Aside0.mk (below_step (by repeat (first | (with_reducible first | exact HB.out | apply below_alloc | apply pw_below_drewN | apply below_drew1) | exact HB.out)) hb); clear HO290; clear HB; have HO290 := n0_; have HO293 := n1_; have HB := n2_; clear n0_ n1_ n2_; clear hb ho20; obtain ⟨Ao21, co21, eo21⟩ := Kd.R_slice HO293.out; subst eo21; obtain ⟨Ao22, co22, eo22⟩ := Kd.N_slice HO290.out; subst eo22) | ((with_reducible refine gate_callee (f := 12) rfl ?_); refine goesL_ (some 14) rfl rfl Try.func12 (by kernel_rfl) rfl #[.slice Ao21 y291.length co21, .slice Ao22 y288.length co22] rfl (by (try simp only [List.map_toArray, List.map_cons, List.map_nil]); first | done | rfl | (simp only [List.length_drop, List.length_take]; rfl)) ?_; (with_reducible refine (apply_Apply.calls _ _ y291 _ _ y288 t294 t295 _ ?side1 ?side2 ?side3 ?side4 A1.out).mono ?_); (case side1 => repeat (first | exact (Kd.R_reads' HO293.out).2.2 | (with_reducible refine Kd.C_alloc ?_ _) | (with_reducible refine Kd.C_drewN ?_ _) | (with_reducible refine Kd.C_drew ?_))); (case side2 => exact (Kd.R_reads' HO293.out).2.1); (case side3 => repeat (first | exact (Kd.N_reads' HO290.out).2.2 | (with_reducible refine Kd.C_alloc ?_ _) | (with_reducible refine Kd.C_drewN ?_ _) | (with_reducible refine Kd.C_drew ?_))); (case side4 => exact (Kd.N_reads' HO290.out).2.1); rintro e w23 ⟨v296, rfl, ho0, hb⟩; refine ⟨_, rfl, ?_⟩; have n0_ := Aside0.mk (Kd.N_elder' (by (with_reducible repeat (first | apply Kd.N_alloc | apply Kd.N_drewN | apply Kd.N_drew)); exact HO290.out) (Kd.R_base ho0) hb); have n1_ := Aside0.mk (Kd.R_elder' (by (with_reducible repeat (first | apply Kd.R_alloc | apply Kd.R_drewN | apply Kd.R_drew)); exact HO293.out) (Kd.R_base ho0) hb); have n2_ := Aside0.mk (Kd.R_lower (Kd.R_new' ho0 (Kd.R_lt (by (with_reducible repeat (first | apply Kd.R_alloc | apply Kd.R_drewN | apply Kd.R_drew)); exact HO293.out))) (below_size (by repeat (first | (with_reducible first | exact HB.out | apply below_alloc | apply pw_below_drewN | apply below_drew1) | exact HB.out)))); have n3_ := Aside0.mk (below_step (by repeat (first | (with_reducible first | exact HB.out | apply below_alloc | apply pw_below_drewN | apply below_drew1) | exact HB.out)) hb); clear HO290; clear HO293; clear HB; have HO290 := n0_; have HO293 := n1_; have HO297 := n2_; have HB := n3_; clear n0_ n1_ n2_ n3_; (try clear hb); (try clear hb2); (try clear hk); (try clear hi); (try clear ho0)) | ((with_reducible refine gate_dst (N := 18) rfl ?_); (try (refine gate_guard (by rfl) ?_; dsimp only)); refine Kd.R_lit Kd.string _ 9 ?hg (N := 18) ?hd (xs := ([(⟨#[99]⟩ : ByteArray)] : List ByteArray)) (inner := [.string (⟨#[99]⟩ : ByteArray)]) (ok := fun _ => True) (okp := fun _ => True) ?hr ?hp (fun _ hk => hk) trivial (Below.refl _ _) (Nat.le_refl _) (by simp) ?_; (case hd => rfl); (case hg => rfl); (case hr => first | (go_simp; done) | (go_simp; rfl)); (case hp => exact (Reps.one (show Kd.M Kd.string _ _ _ (⟨#[99]⟩ : ByteArray) [.string (⟨#[99]⟩ : ByteArray)] from rfl) (Reps.none _ _))); intro v299 w24 ho25 hb hg_ hnew_; clear hg_ hnew_; (first | rw [← Ny298.out] at ho25 | (simp only [Int.reduceToNat] at ho25; rw [← Ny298.out] at ho25)); have n0_ := Aside0.mk (Kd.N_elder' (by (with_reducible repeat (first | apply Kd.N_alloc | apply Kd.N_drewN | apply Kd.N_drew)); exact HO290.out) (Kd.R_base ho25) hb); have n1_ := Aside0.mk (Kd.R_elder' (by (with_reducible repeat (first | apply Kd.R_alloc | apply Kd.R_drewN | apply Kd.R_drew)); exact HO293.out) (Kd.R_base ho25) hb); have n2_ := Aside0.mk (Kd.R_elder' (by (with_reducible repeat (first | apply Kd.R_alloc | apply Kd.R_drewN | apply Kd.R_drew)); exact HO297.out) (Kd.R_base ho25) hb); have n3_ := Aside0.mk (Kd.R_lower (Kd.R_new' (Kd.R_new' ho25 (Kd.R_lt (by (with_reducible repeat (first | apply Kd.R_alloc | apply Kd.R_drewN | apply Kd.R_drew)); exact HO293.out))) (Kd.R_lt (by (with_reducible repeat (first | apply Kd.R_alloc | apply Kd.R_drewN | apply Kd.R_drew)); exact HO297.out))) (below_size (by repeat (first | (with_reducible first | exact HB.out | apply below_alloc | apply pw_below_drewN | apply below_drew1) | exact HB.out)))); have n4_ := Aside0.mk (below_step (by repeat (first | (with_reducible first | exact HB.out | apply below_alloc | apply pw_below_drewN | apply below_drew1) | exact HB.out)) hb); clear HO290; clear HO293; clear HO297; clear HB; have HO290 := n0_; have HO293 := n1_; have HO297 := n2_; have HO300 := n3_; have HB := n4_; clear n0_ n1_ n2_ n3_ n4_; clear hb ho25; obtain ⟨Ao26, co26, eo26⟩ := Kd.R_slice HO300.out; subst eo26) | ((with_reducible refine gate_callee (f := 12) rfl ?_); refine goesL_ (some 20) rfl rfl Try.func12 (by kernel_rfl) rfl #[.slice Ao26 y298.length co26, .slice Ao22 y288.length co22] rfl (by (try simp only [List.map_toArray, List.map_cons, List.map_nil]); first | done | rfl | (simp only [List.length_drop, List.length_take]; rfl)) ?_; (with_reducible refine (apply_Apply.calls _ _ y298 _ _ y288 t301 t302 _ ?side1 ?side2 ?side3 ?side4 A2.out).mono ?_); (case side1 => repeat (first | exact (Kd.R_reads' HO300.out).2.2 | (with_reducible refine Kd.C_alloc ?_ _) | (with_reducible refine Kd.C_drewN ?_ _) | (with_reducible refine Kd.C_drew ?_))); (case side2 => exact (Kd.R_reads' HO300.out).2.1); (case side3 => repeat (first | exact (Kd.N_reads' HO290.out).2.2 | (with_reducible refine Kd.C_alloc ?_ _) | (with_reducible refine Kd.C_drewN ?_ _) | (with_reducible refine Kd.C_drew ?_))); (case side4 => exact (Kd.N_reads' HO290.out).2.1); rintro e w27 ⟨v303, rfl, ho0, hb⟩; refine ⟨_, rfl, ?_⟩; have n0_ := Aside0.mk (Kd.N_elder' (by (with_reducible repeat (first | apply Kd.N_alloc | apply Kd.N_drewN | apply Kd.N_drew)); exact HO290.out) (Kd.R_base ho0) hb); have n1_ := Aside0.mk (Kd.R_elder' (by (with_reducible repeat (first | apply Kd.R_alloc | apply Kd.R_drewN | apply Kd.R_drew)); exact HO293.out) (Kd.R_base ho0) hb); have n2_ := Aside0.mk (Kd.R_elder' (by (with_reducible repeat (first | apply Kd.R_alloc | apply Kd.R_drewN | apply Kd.R_drew)); exact HO297.out) (Kd.R_base ho0) hb); have n3_ := Aside0.mk (Kd.R_elder' (by (with_reducible repeat (first | apply Kd.R_alloc | apply Kd.R_drewN | apply Kd.R_drew)); exact HO300.out) (Kd.R_base ho0) hb); have n4_ := Aside0.mk (Kd.R_lower (Kd.R_new' (Kd.R_new' (Kd.R_new' ho0 (Kd.R_lt (by (with_reducible repeat (first | apply Kd.R_alloc | apply Kd.R_drewN | apply Kd.R_drew)); exact HO293.out))) (Kd.R_lt (by (with_reducible repeat (first | apply Kd.R_alloc | apply Kd.R_drewN | apply Kd.R_drew)); exact HO297.out))) (Kd.R_lt (by (with_reducible repeat (first | apply Kd.R_alloc | apply Kd.R_drewN | apply Kd.R_drew)); exact HO300.out))) (below_size (by repeat (first | (with_reducible first | exact HB.out | apply below_alloc | apply pw_below_drewN | apply below_drew1) | exact HB.out)))); have n5_ := Aside0.mk (below_step (by repeat (first | (with_reducible first | exact HB.out | apply below_alloc | apply pw_below_drewN | apply below_drew1) | exact HB.out)) hb); clear HO290; clear HO293; clear HO297; clear HO300; clear HB; have HO290 := n0_; have HO293 := n1_; have HO297 := n2_; have HO300 := n3_; have HO304 := n4_; have HB := n5_; clear n0_ n1_ n2_ n3_ n4_ n5_; (try clear hb); (try clear hb2); (try clear hk); (try clear hi); (try clear ho0)) | ((with_reducible refine gate_dst (N := 24) rfl ?_); (try (refine gate_guard (by rfl) ?_; dsimp only)); refine Kd.R_lit Kd.string _ 9 ?hg (N := 24) ?hd (xs := ([(⟨#[97]⟩ : ByteArray)] : List ByteArray)) (inner := [.string (⟨#[97]⟩ : ByteArray)]) (ok := fun _ => True) (okp := fun _ => True) ?hr ?hp (fun _ hk => hk) trivial (Below.refl _ _) (Nat.le_refl _) (by simp) ?_; (case hd => rfl); (case hg => rfl); (case hr => first | (go_simp; done) | (go_simp; rfl)); (case hp => exact (Reps.one (show Kd.M Kd.string _ _ _ (⟨#[97]⟩ : ByteArray) [.string (⟨#[97]⟩ : ByteArray)] from rfl) (Reps.none _ _))); intro v306 w28 ho29 hb hg_ hnew_; clear hg_ hnew_; (first | rw [← Ny305.out] at ho29 | (simp only [Int.reduceToNat] at ho29; rw [← Ny305.out] at ho29)); have n0_ := Aside0.mk (Kd.N_elder' (by (with_reducible repeat (first | apply Kd.N_alloc | apply Kd.N_drewN | apply Kd.N_drew)); exact HO290.out) (Kd.R_base ho29) hb); have n1_ := Aside0.mk (Kd.R_elder' (by (with_reducible repeat (first | apply Kd.R_alloc | apply Kd.R_drewN | apply Kd.R_drew)); exact HO293.out) (Kd.R_base ho29) hb); have n2_ := Aside0.mk (Kd.R_elder' (by (with_reducible repeat (first | apply Kd.R_alloc | apply Kd.R_drewN | apply Kd.R_drew)); exact HO297.out) (Kd.R_base ho29) hb); have n3_ := Aside0.mk (Kd.R_elder' (by (with_reducible repeat (first | apply Kd.R_alloc | apply Kd.R_drewN | apply Kd.R_drew)); exact HO300.out) (Kd.R_base ho29) hb); have n4_ := Aside0.mk (Kd.R_elder' (by (with_reducible repeat (first | apply Kd.R_alloc | apply Kd.R_drewN | apply Kd.R_drew)); exact HO304.out) (Kd.R_base ho29) hb); have n5_ := Aside0.mk (Kd.R_lower (Kd.R_new' (Kd.R_new' (Kd.R_new' (Kd.R_new' ho29 (Kd.R_lt (by (with_reducible repeat (first | apply Kd.R_alloc | apply Kd.R_drewN | apply Kd.R_drew)); exact HO293.out))) (Kd.R_lt (by (with_reducible repeat (first | apply Kd.R_alloc | apply Kd.R_drewN | apply Kd.R_drew)); exact HO297.out))) (Kd.R_lt (by (with_reducible repeat (first | apply Kd.R_alloc | apply Kd.R_drewN | apply Kd.R_drew)); exact HO300.out))) (Kd.R_lt (by (with_reducible repeat (first | apply Kd.R_alloc | apply Kd.R_drewN | apply Kd.R_drew)); exact HO304.out))) (below_size (by repeat (first | (with_reducible first | exact HB.out | apply below_alloc | apply pw_below_drewN | apply below_drew1) | exact HB.out)))); have n6_ := Aside0.mk (below_step (by repeat (first | (with_reducible first | exact HB.out | apply below_alloc | apply pw_below_drewN | apply below_drew1) | exact HB.out)) hb); clear HO290; clear HO293; clear HO297; clear HO300; clear HO304; clear HB; have HO290 := n0_; have HO293 := n1_; have HO297 := n2_; have HO300 := n3_; have HO304 := n4_; have HO307 := n5_; have HB := n6_; clear n0_ n1_ n2_ n3_ n4_ n5_ n6_; clear hb ho29) | ((with_reducible refine gate_dst (N := 25) rfl ?_); (try (refine gate_guard (by rfl) ?_; dsimp only)); refine Kd.R_lit Kd.string _ 9 ?hg (N := 25) ?hd (xs := ([(⟨#[98]⟩ : ByteArray)] : List ByteArray)) (inner := [.string (⟨#[98]⟩ : ByteArray)]) (ok := fun _ => True) (okp := fun _ => True) ?hr ?hp (fun _ hk => hk) trivial (Below.refl _ _) (Nat.le_refl _) (by simp) ?_; (case hd => rfl); (case hg => rfl); (case hr => first | (go_simp; done) | (go_simp; rfl)); (case hp => exact (Reps.one (show Kd.M Kd.string _ _ _ (⟨#[98]⟩ : ByteArray) [.string (⟨#[98]⟩ : ByteArray)] from rfl) (Reps.none _ _))); intro v309 w30 ho31 hb hg_ hnew_; clear hg_ hnew_; (first | rw [← Ny308.out] at ho31 | (simp only [Int.reduceToNat] at ho31; rw [← Ny308.out] at ho31)); have n0_ := Aside0.mk (Kd.N_elder' (by (with_reducible repeat (first | apply Kd.N_alloc | apply Kd.N_drewN | apply Kd.N_drew)); exact HO290.out) (Kd.R_base ho31) hb); have n1_ := Aside0.mk (Kd.R_elder' (by (with_reducible repeat (first | apply Kd.R_alloc | apply Kd.R_drewN | apply Kd.R_drew)); exact HO293.out) (Kd.R_base ho31) hb); have n2_ := Aside0.mk (Kd.R_elder' (by (with_reducible repeat (first | apply Kd.R_alloc | apply Kd.R_drewN | apply Kd.R_drew)); exact HO297.out) (Kd.R_base ho31) hb); have n3_ := Aside0.mk (Kd.R_elder' (by (with_reducible repeat (first | apply Kd.R_alloc | apply Kd.R_drewN | apply Kd.R_drew)); exact HO300.out) (Kd.R_base ho31) hb); have n4_ := Aside0.mk (Kd.R_elder' (by (with_reducible repeat (first | apply Kd.R_alloc | apply Kd.R_drewN | apply Kd.R_drew)); exact HO304.out) (Kd.R_base ho31) hb); have n5_ := Aside0.mk (Kd.R_elder' (by (with_reducible repeat (first | apply Kd.R_alloc | apply Kd.R_drewN | apply Kd.R_drew)); exact HO307.out) (Kd.R_base ho31) hb); have n6_ := Aside0.mk (Kd.R_lower (Kd.R_new' (Kd.R_new' (Kd.R_new' (Kd.R_new' (Kd.R_new' ho31 (Kd.R_lt (by (with_reducible repeat (first | apply Kd.R_alloc | apply Kd.R_drewN | apply Kd.R_drew)); exact HO293.out))) (Kd.R_lt (by (with_reducible repeat (first | apply Kd.R_alloc | apply Kd.R_drewN | apply Kd.R_drew)); exact HO297.out))) (Kd.R_lt (by (with_reducible repeat (first | apply Kd.R_alloc | apply Kd.R_drewN | apply Kd.R_drew)); exact HO300.out))) (Kd.R_lt (by (with_reducible repeat (first | apply Kd.R_alloc | apply Kd.R_drewN | apply Kd.R_drew)); exact HO304.out))) (Kd.R_lt (by (with_reducible repeat (first | apply Kd.R_alloc | apply Kd.R_drewN | apply Kd.R_drew)); exact HO307.out))) (below_size (by repeat (first | (with_reducible first | exact HB.out | apply below_alloc | apply pw_below_drewN | apply below_drew1) | exact HB.out)))); have n7_ := Aside0.mk (below_step (by repeat (first | (with_reducible first | exact HB.out | apply below_alloc | apply pw_below_drewN | apply below_drew1) | exact HB.out)) hb); clear HO290; clear HO293; clear HO297; clear HO300; clear HO304; clear HO307; clear HB; have HO290 := n0_; have HO293 := n1_; have HO297 := n2_; have HO300 := n3_; have HO304 := n4_; have HO307 := n5_; have HO310 := n6_; have HB := n7_; clear n0_ n1_ n2_ n3_ n4_ n5_ n6_ n7_; clear hb ho31; obtain ⟨Ao32, co32, eo32⟩ := Kd.R_slice HO307.out; subst eo32; obtain ⟨Ao33, co33, eo33⟩ := Kd.R_slice HO310.out; subst eo33) | ((with_reducible refine gate_callee (f := 20) rfl ?_); refine goesL_ (some 26) rfl rfl Try.func20 (by kernel_rfl) rfl #[.slice Ao32 y305.length co32, .slice Ao33 y308.length co33, .int .i64 0] rfl (by (try simp only [List.map_toArray, List.map_cons, List.map_nil]); first | done | rfl | (simp only [List.length_drop, List.length_take]; rfl)) ?_; (with_reducible refine (apply_Between.calls k _ _ y305 _ _ y308 0 t311 t312 _ ?side1 ?side2 ?side3 ?side4 A3.out).mono ?_); (case side1 => repeat (first | exact (Kd.R_reads' HO307.out).2.2 | (with_reducible refine Kd.C_alloc ?_ _) | (with_reducible refine Kd.C_drewN ?_ _) | (with_reducible refine Kd.C_drew ?_))); (case side2 => exact (Kd.R_reads' HO307.out).2.1); (case side3 => repeat (first | exact (Kd.R_reads' HO310.out).2.2 | (with_reducible refine Kd.C_alloc ?_ _) | (with_reducible refine Kd.C_drewN ?_ _) | (with_reducible refine Kd.C_drew ?_))); (case side4 => exact (Kd.R_reads' HO310.out).2.1); rintro e w34 ⟨v313, rfl, ho0, hb⟩; refine ⟨_, rfl, ?_⟩; have n0_ := Aside0.mk (Kd.N_elder' (by (with_reducible repeat (first | apply Kd.N_alloc | apply Kd.N_drewN | apply Kd.N_drew)); exact HO290.out) (by first | exact Kd.N_base ho0 | exact Kd.S_base ho0) hb); have n1_ := Aside0.mk (Kd.R_below (by (with_reducible repeat (first | apply Kd.R_alloc | apply Kd.R_drewN | apply Kd.R_drew)); exact HO293.out) hb); have n2_ := Aside0.mk (Kd.R_below (by (with_reducible repeat (first | apply Kd.R_alloc | apply Kd.R_drewN | apply Kd.R_drew)); exact HO297.out) hb); have n3_ := Aside0.mk (Kd.R_below (by (with_reducible repeat (first | apply Kd.R_alloc | apply Kd.R_drewN | apply Kd.R_drew)); exact HO300.out) hb); have n4_ := Aside0.mk (Kd.R_below (by (with_reducible repeat (first | apply Kd.R_alloc | apply Kd.R_drewN | apply Kd.R_drew)); exact HO304.out) hb); have n5_ := Aside0.mk (Kd.R_below (by (with_reducible repeat (first | apply Kd.R_alloc | apply Kd.R_drewN | apply Kd.R_drew)); exact HO307.out) hb); have n6_ := Aside0.mk (Kd.R_below (by (with_reducible repeat (first | apply Kd.R_alloc | apply Kd.R_drewN | apply Kd.R_drew)); exact HO310.out) hb); have n7_ := Aside0.mk (Kd.N_lower (Kd.N_mono (ok' := fun k_ => some k_ ≠ (.slice Ao22 y288.length co22 : Value).ownBlock ∧ some k_ ≠ (.slice Ao21 y291.length co21 : Value).ownBlock ∧ some k_ ≠ (v296 : Value).ownBlock ∧ some k_ ≠ (.slice Ao26 y298.length co26 : Value).ownBlock ∧ some k_ ≠ (v303 : Value).ownBlock ∧ some k_ ≠ (.slice Ao32 y305.length co32 : Value).ownBlock ∧ some k_ ≠ (.slice Ao33 y308.length co33 : Value).ownBlock) (Kd.S_N (Kd.S_bound ho0)) (fun k_ hk_ => ⟨(Kd.fresh' (Kd.N_lt (by (with_reducible repeat (first | apply Kd.N_alloc | apply Kd.N_drewN | apply Kd.N_drew)); exact HO290.out)) k_ hk_.2.1), (Kd.fresh' (Kd.R_lt (by (with_reducible repeat (first | apply Kd.R_alloc | apply Kd.R_drewN | apply Kd.R_drew)); exact HO293.out)) k_ hk_.2.1), (Kd.fresh' (Kd.R_lt (by (with_reducible repeat (first | apply Kd.R_alloc | apply Kd.R_drewN | apply Kd.R_drew)); exact HO297.out)) k_ hk_.2.1), (Kd.fresh' (Kd.R_lt (by (with_reducible repeat (first | apply Kd.R_alloc | apply Kd.R_drewN | apply Kd.R_drew)); exact HO300.out)) k_ hk_.2.1), (Kd.fresh' (Kd.R_lt (by (with_reducible repeat (first | apply Kd.R_alloc | apply Kd.R_drewN | apply Kd.R_drew)); exact HO304.out)) k_ hk_.2.1), (Kd.fresh' (Kd.R_lt (by (with_reducible repeat (first | apply Kd.R_alloc | apply Kd.R_drewN | apply Kd.R_drew)); exact HO307.out)) k_ hk_.2.1), (Kd.fresh' (Kd.R_lt (by (with_reducible repeat (first | apply Kd.R_alloc | apply Kd.R_drewN | apply Kd.R_drew)); exact HO310.out)) k_ hk_.2.1)⟩)) (below_size (by repeat (first | (with_reducible first | exact HB.out | apply below_alloc | apply pw_below_drewN | apply below_drew1) | exact HB.out)))); have n8_ := Aside0.mk (below_step (by repeat (first | (with_reducible first | exact HB.out | apply below_alloc | apply pw_below_drewN | apply below_drew1) | exact HB.out)) hb); clear HO290; clear HO293; clear HO297; clear HO300; clear HO304; clear HO307; clear HO310; clear HB; have HO290 := n0_; have HO293 := n1_; have HO297 := n2_; have HO300 := n3_; have HO304 := n4_; have HO307 := n5_; have HO310 := n6_; have HO314 := n7_; have HB := n8_; clear n0_ n1_ n2_ n3_ n4_ n5_ n6_ n7_ n8_; (try clear hb); (try clear hb2); (try clear hk); (try clear hi); (try clear ho0)) | ((with_reducible refine gate_dst (N := 33) rfl ?_); (try (refine gate_guard (by rfl) ?_; dsimp only)); refine Kd.R_lit Kd.string _ 9 ?hg (N := 33) ?hd (xs := ([(⟨#[98]⟩ : ByteArray)] : List ByteArray)) (inner := [.string (⟨#[98]⟩ : ByteArray)]) (ok := fun _ => True) (okp := fun _ => True) ?hr ?hp (fun _ hk => hk) trivial (Below.refl _ _) (Nat.le_refl _) (by simp) ?_; (case hd => rfl); (case hg => rfl); (case hr => first | (go_simp; done) | (go_simp; rfl)); (case hp => exact (Reps.one (show Kd.M Kd.string _ _ _ (⟨#[98]⟩ : ByteArray) [.string (⟨#[98]⟩ : ByteArray)] from rfl) (Reps.none _ _))); intro v316 w35 ho36 hb hg_ hnew_; clear hg_ hnew_; (first | rw [← Ny315.out] at ho36 | (simp only [Int.reduceToNat] at ho36; rw [← Ny315.out] at ho36)); have n0_ := Aside0.mk (Kd.N_elder' (by (with_reducible repeat (first | apply Kd.N_alloc | apply Kd.N_drewN | apply Kd.N_drew)); exact HO290.out) (Kd.R_base ho36) hb); have n1_ := Aside0.mk (Kd.R_elder' (by (with_reducible repeat (first | apply Kd.R_alloc | apply Kd.R_drewN | apply Kd.R_drew)); exact HO293.out) (Kd.R_base ho36) hb); have n2_ := Aside0.mk (Kd.R_elder' (by (with_reducible repeat (first | apply Kd.R_alloc | apply Kd.R_drewN | apply Kd.R_drew)); exact HO297.out) (Kd.R_base ho36) hb); have n3_ := Aside0.mk (Kd.R_elder' (by (with_reducible repeat (first | apply Kd.R_alloc | apply Kd.R_drewN | apply Kd.R_drew)); exact HO300.out) (Kd.R_base ho36) hb); have n4_ := Aside0.mk (Kd.R_elder' (by (with_reducible repeat (first | apply Kd.R_alloc | apply Kd.R_drewN | apply Kd.R_drew)); exact HO304.out) (Kd.R_base ho36) hb); have n5_ := Aside0.mk (Kd.R_elder' (by (with_reducible repeat (first | apply Kd.R_alloc | apply Kd.R_drewN | apply Kd.R_drew)); exact HO307.out) (Kd.R_base ho36) hb); have n6_ := Aside0.mk (Kd.R_elder' (by (with_reducible repeat (first | apply Kd.R_alloc | apply Kd.R_drewN | apply Kd.R_drew)); exact HO310.out) (Kd.R_base ho36) hb); have n7_ := Aside0.mk (Kd.N_elder' (by (with_reducible repeat (first | apply Kd.N_alloc | apply Kd.N_drewN | apply Kd.N_drew)); exact HO314.out) (Kd.R_base ho36) hb); have n8_ := Aside0.mk (Kd.R_lower (Kd.R_new' (Kd.R_new' (Kd.R_new' (Kd.R_new' (Kd.R_new' (Kd.R_new' ho36 (Kd.R_lt (by (with_reducible repeat (first | apply Kd.R_alloc | apply Kd.R_drewN | apply Kd.R_drew)); exact HO293.out))) (Kd.R_lt (by (with_reducible repeat (first | apply Kd.R_alloc | apply Kd.R_drewN | apply Kd.R_drew)); exact HO297.out))) (Kd.R_lt (by (with_reducible repeat (first | apply Kd.R_alloc | apply Kd.R_drewN | apply Kd.R_drew)); exact HO300.out))) (Kd.R_lt (by (with_reducible repeat (first | apply Kd.R_alloc | apply Kd.R_drewN | apply Kd.R_drew)); exact HO304.out))) (Kd.R_lt (by (with_reducible repeat (first | apply Kd.R_alloc | apply Kd.R_drewN | apply Kd.R_drew)); exact HO307.out))) (Kd.R_lt (by (with_reducible repeat (first | apply Kd.R_alloc | apply Kd.R_drewN | apply Kd.R_drew)); exact HO310.out))) (below_size (by repeat (first | (with_reducible first | exact HB.out | apply below_alloc | apply pw_below_drewN | apply below_drew1) | exact HB.out)))); have n9_ := Aside0.mk (below_step (by repeat (first | (with_reducible first | exact HB.out | apply below_alloc | apply pw_below_drewN | apply below_drew1) | exact HB.out)) hb); clear HO290; clear HO293; clear HO297; clear HO300; clear HO304; clear HO307; clear HO310; clear HO314; clear HB; have HO290 := n0_; have HO293 := n1_; have HO297 := n2_; have HO300 := n3_; have HO304 := n4_; have HO307 := n5_; have HO310 := n6_; have HO314 := n7_; have HO317 := n8_; have HB := n9_; clear n0_ n1_ n2_ n3_ n4_ n5_ n6_ n7_ n8_ n9_; clear hb ho36; obtain ⟨Ao37, co37, eo37⟩ := Kd.R_slice HO297.out; subst eo37; obtain ⟨Ao38, co38, eo38⟩ := Kd.R_slice HO317.out; subst eo38) | (go_at_call 14; (with_reducible refine (grapevineref01_Texts.calls k _ _ t294 _ _ y315 true _ ?side1 ?side2 ?side3 ?side4 A5.out).mono ?_); (case side1 => repeat (first | exact (Kd.R_reads' HO297.out).2.2 | (with_reducible refine Kd.C_alloc ?_ _) | (with_reducible refine Kd.C_drewN ?_ _) | (with_reducible refine Kd.C_drew ?_))); (case side2 => exact (Kd.R_reads' HO297.out).2.1); (case side3 => repeat (first | exact (Kd.R_reads' HO317.out).2.2 | (with_reducible refine Kd.C_alloc ?_ _) | (with_reducible refine Kd.C_drewN ?_ _) | (with_reducible refine Kd.C_drew ?_))); (case side4 => exact (Kd.R_reads' HO317.out).2.1); rintro e w' ⟨rfl, ⟨nd, rfl⟩⟩; obtain ⟨Ao39, co39, eo39⟩ := Kd.N_slice HO314.out; subst eo39) | (go_at_call 17; (with_reducible refine (grapevineref05_Same.calls k _ _ t311 _ _ y288 true _ ?side1 ?side2 ?side3 ?side4 A9.out).mono ?_); (case side1 => repeat (first | exact (Kd.N_reads' HO314.out).2.2 | (with_reducible refine Kd.C_alloc ?_ _) | (with_reducible refine Kd.C_drewN ?_ _) | (with_reducible refine Kd.C_drew ?_))); (case side2 => exact (Kd.N_reads' HO314.out).2.1); (case side3 => repeat (first | exact (Kd.N_reads' HO290.out).2.2 | (with_reducible refine Kd.C_alloc ?_ _) | (with_reducible refine Kd.C_drewN ?_ _) | (with_reducible refine Kd.C_drew ?_))); (case side4 => exact (Kd.N_reads' HO290.out).2.1); rintro e w40 ⟨rfl, hb⟩; have n0_ := Aside0.mk (Kd.N_below (by (with_reducible repeat (first | apply Kd.N_alloc | apply Kd.N_drewN | apply Kd.N_drew)); exact HO290.out) hb); have n1_ := Aside0.mk (Kd.R_below (by (with_reducible repeat (first | apply Kd.R_alloc | apply Kd.R_drewN | apply Kd.R_drew)); exact HO293.out) hb); have n2_ := Aside0.mk (Kd.R_below (by (with_reducible repeat (first | apply Kd.R_alloc | apply Kd.R_drewN | apply Kd.R_drew)); exact HO297.out) hb); have n3_ := Aside0.mk (Kd.R_below (by (with_reducible repeat (first | apply Kd.R_alloc | apply Kd.R_drewN | apply Kd.R_drew)); exact HO300.out) hb); have n4_ := Aside0.mk (Kd.R_below (by (with_reducible repeat (first | apply Kd.R_alloc | apply Kd.R_drewN | apply Kd.R_drew)); exact HO304.out) hb); have n5_ := Aside0.mk (Kd.R_below (by (with_reducible repeat (first | apply Kd.R_alloc | apply Kd.R_drewN | apply Kd.R_drew)); exact HO307.out) hb); have n6_ := Aside0.mk (Kd.R_below (by (with_reducible repeat (first | apply Kd.R_alloc | apply Kd.R_drewN | apply Kd.R_drew)); exact HO310.out) hb); have n7_ := Aside0.mk (Kd.N_below (by (with_reducible repeat (first | apply Kd.N_alloc | apply Kd.N_drewN | apply Kd.N_drew)); exact HO314.out) hb); have n8_ := Aside0.mk (Kd.R_below (by (with_reducible repeat (first | apply Kd.R_alloc | apply Kd.R_drewN | apply Kd.R_drew)); exact HO317.out) hb); have n9_ := Aside0.mk (below_step (by repeat (first | (with_reducible first | exact HB.out | apply below_alloc | apply pw_below_drewN | apply below_drew1) | exact HB.out)) hb); clear HO290; clear HO293; clear HO297; clear HO300; clear HO304; clear HO307; clear HO310; clear HO314; clear HO317; clear HB; have HO290 := n0_; have HO293 := n1_; have HO297 := n2_; have HO300 := n3_; have HO304 := n4_; have HO307 := n5_; have HO310 := n6_; have HO314 := n7_; have HO317 := n8_; have HB := n9_; clear n0_ n1_ n2_ n3_ n4_ n5_ n6_ n7_ n8_ n9_; (try clear hb); (try clear hb2); (try clear hk); (try clear hi)) | (go_at_call 15; (with_reducible refine (apply_Right.calls k _ _ y288 true _ ?side1 ?side2 A11.out).mono ?_); (case side1 => repeat (first | exact (Kd.N_reads' HO290.out).2.2 | (with_reducible refine Kd.C_alloc ?_ _) | (with_reducible refine Kd.C_drewN ?_ _) | (with_reducible refine Kd.C_drew ?_))); (case side2 => exact (Kd.N_reads' HO290.out).2.1); rintro e w41 ⟨rfl, hb⟩; have n0_ := Aside0.mk (Kd.N_below (by (with_reducible repeat (first | apply Kd.N_alloc | apply Kd.N_drewN | apply Kd.N_drew)); exact HO290.out) hb); have n1_ := Aside0.mk (Kd.R_below (by (with_reducible repeat (first | apply Kd.R_alloc | apply Kd.R_drewN | apply Kd.R_drew)); exact HO293.out) hb); have n2_ := Aside0.mk (Kd.R_below (by (with_reducible repeat (first | apply Kd.R_alloc | apply Kd.R_drewN | apply Kd.R_drew)); exact HO297.out) hb); have n3_ := Aside0.mk (Kd.R_below (by (with_reducible repeat (first | apply Kd.R_alloc | apply Kd.R_drewN | apply Kd.R_drew)); exact HO300.out) hb); have n4_ := Aside0.mk (Kd.R_below (by (with_reducible repeat (first | apply Kd.R_alloc | apply Kd.R_drewN | apply Kd.R_drew)); exact HO304.out) hb); have n5_ := Aside0.mk (Kd.R_below (by (with_reducible repeat (first | apply Kd.R_alloc | apply Kd.R_drewN | apply Kd.R_drew)); exact HO307.out) hb); have n6_ := Aside0.mk (Kd.R_below (by (with_reducible repeat (first | apply Kd.R_alloc | apply Kd.R_drewN | apply Kd.R_drew)); exact HO310.out) hb); have n7_ := Aside0.mk (Kd.N_below (by (with_reducible repeat (first | apply Kd.N_alloc | apply Kd.N_drewN | apply Kd.N_drew)); exact HO314.out) hb); have n8_ := Aside0.mk (Kd.R_below (by (with_reducible repeat (first | apply Kd.R_alloc | apply Kd.R_drewN | apply Kd.R_drew)); exact HO317.out) hb); have n9_ := Aside0.mk (below_step (by repeat (first | (with_reducible first | exact HB.out | apply below_alloc | apply pw_below_drewN | apply below_drew1) | exact HB.out)) hb); clear HO290; clear HO293; clear HO297; clear HO300; clear HO304; clear HO307; clear HO310; clear HO314; clear HO317; clear HB; have HO290 := n0_; have HO293 := n1_; have HO297 := n2_; have HO300 := n3_; have HO304 := n4_; have HO307 := n5_; have HO310 := n6_; have HO314 := n7_; have HO317 := n8_; have HB := n9_; clear n0_ n1_ n2_ n3_ n4_ n5_ n6_ n7_ n8_ n9_; (try clear hb); (try clear hb2); (try clear hk); (try clear hi)) | (go_at_call 18; (with_reducible refine (apply_Turn.calls k _ _ y288 t321 _ ?side1 ?side2 A13.out).mono ?_); (case side1 => repeat (first | exact (Kd.N_reads' HO290.out).2.2 | (with_reducible refine Kd.C_alloc ?_ _) | (with_reducible refine Kd.C_drewN ?_ _) | (with_reducible refine Kd.C_drew ?_))); (case side2 => exact (Kd.N_reads' HO290.out).2.1); rintro e w42 ⟨v322, rfl, ho0, hb⟩; have n0_ := Aside0.mk (Kd.N_elder' (by (with_reducible repeat (first | apply Kd.N_alloc | apply Kd.N_drewN | apply Kd.N_drew)); exact HO290.out) (by first | exact Kd.N_base ho0 | exact Kd.S_base ho0) hb); have n1_ := Aside0.mk (Kd.R_below (by (with_reducible repeat (first | apply Kd.R_alloc | apply Kd.R_drewN | apply Kd.R_drew)); exact HO293.out) hb); have n2_ := Aside0.mk (Kd.R_below (by (with_reducible repeat (first | apply Kd.R_alloc | apply Kd.R_drewN | apply Kd.R_drew)); exact HO297.out) hb); have n3_ := Aside0.mk (Kd.R_below (by (with_reducible repeat (first | apply Kd.R_alloc | apply Kd.R_drewN | apply Kd.R_drew)); exact HO300.out) hb); have n4_ := Aside0.mk (Kd.R_below (by (with_reducible repeat (first | apply Kd.R_alloc | apply Kd.R_drewN | apply Kd.R_drew)); exact HO304.out) hb); have n5_ := Aside0.mk (Kd.R_below (by (with_reducible repeat (first | apply Kd.R_alloc | apply Kd.R_drewN | apply Kd.R_drew)); exact HO307.out) hb); have n6_ := Aside0.mk (Kd.R_below (by (with_reducible repeat (first | apply Kd.R_alloc | apply Kd.R_drewN | apply Kd.R_drew)); exact HO310.out) hb); have n7_ := Aside0.mk (Kd.N_elder' (by (with_reducible repeat (first | apply Kd.N_alloc | apply Kd.N_drewN | apply Kd.N_drew)); exact HO314.out) (by first | exact Kd.N_base ho0 | exact Kd.S_base ho0) hb); have n8_ := Aside0.mk (Kd.R_below (by (with_reducible repeat (first | apply Kd.R_alloc | apply Kd.R_drewN | apply Kd.R_drew)); exact HO317.out) hb); have n9_ := Aside0.mk (Kd.N_lower (Kd.N_mono (ok' := fun k_ => some k_ ≠ (.slice Ao22 y288.length co22 : Value).ownBlock ∧ some k_ ≠ (.slice Ao21 y291.length co21 : Value).ownBlock ∧ some k_ ≠ (.slice Ao37 t294.length co37 : Value).ownBlock ∧ some k_ ≠ (.slice Ao26 y298.length co26 : Value).ownBlock ∧ some k_ ≠ (v303 : Value).ownBlock ∧ some k_ ≠ (.slice Ao32 y305.length co32 : Value).ownBlock ∧ some k_ ≠ (.slice Ao33 y308.length co33 : Value).ownBlock ∧ some k_ ≠ (.slice Ao39 t311.length co39 : Value).ownBlock ∧ some k_ ≠ (.slice Ao38 y315.length co38 : Value).ownBlock) (Kd.S_N (Kd.S_bound ho0)) (fun k_ hk_ => ⟨(Kd.fresh' (Kd.N_lt (by (with_reducible repeat (first | apply Kd.N_alloc | apply Kd.N_drewN | apply Kd.N_drew)); exact HO290.out)) k_ hk_.2.1), (Kd.fresh' (Kd.R_lt (by (with_reducible repeat (first | apply Kd.R_alloc | apply Kd.R_drewN | apply Kd.R_drew)); exact HO293.out)) k_ hk_.2.1), (Kd.fresh' (Kd.R_lt (by (with_reducible repeat (first | apply Kd.R_alloc | apply Kd.R_drewN | apply Kd.R_drew)); exact HO297.out)) k_ hk_.2.1), (Kd.fresh' (Kd.R_lt (by (with_reducible repeat (first | apply Kd.R_alloc | apply Kd.R_drewN | apply Kd.R_drew)); exact HO300.out)) k_ hk_.2.1), (Kd.fresh' (Kd.R_lt (by (with_reducible repeat (first | apply Kd.R_alloc | apply Kd.R_drewN | apply Kd.R_drew)); exact HO304.out)) k_ hk_.2.1), (Kd.fresh' (Kd.R_lt (by (with_reducible repeat (first | apply Kd.R_alloc | apply Kd.R_drewN | apply Kd.R_drew)); exact HO307.out)) k_ hk_.2.1), (Kd.fresh' (Kd.R_lt (by (with_reducible repeat (first | apply Kd.R_alloc | apply Kd.R_drewN | apply Kd.R_drew)); exact HO310.out)) k_ hk_.2.1), (Kd.fresh' (Kd.N_lt (by (with_reducible repeat (first | apply Kd.N_alloc | apply Kd.N_drewN | apply Kd.N_drew)); exact HO314.out)) k_ hk_.2.1), (Kd.fresh' (Kd.R_lt (by (with_reducible repeat (first | apply Kd.R_alloc | apply Kd.R_drewN | apply Kd.R_drew)); exact HO317.out)) k_ hk_.2.1)⟩)) (below_size (by repeat (first | (with_reducible first | exact HB.out | apply below_alloc | apply pw_below_drewN | apply below_drew1) | exact HB.out)))); have n10_ := Aside0.mk (below_step (by repeat (first | (with_reducible first | exact HB.out | apply below_alloc | apply pw_below_drewN | apply below_drew1) | exact HB.out)) hb); clear HO290; clear HO293; clear HO297; clear HO300; clear HO304; clear HO307; clear HO310; clear HO314; clear HO317; clear HB; have HO290 := n0_; have HO293 := n1_; have HO297 := n2_; have HO300 := n3_; have HO304 := n4_; have HO307 := n5_; have HO310 := n6_; have HO314 := n7_; have HO317 := n8_; have HO323 := n9_; have HB := n10_; clear n0_ n1_ n2_ n3_ n4_ n5_ n6_ n7_ n8_ n9_ n10_; (try clear hb); (try clear hb2); (try clear hk); (try clear hi); (try clear ho0); obtain ⟨Ao43, co43, eo43⟩ := Kd.N_slice HO323.out; subst eo43))
       go_ret
       exact ⟨by first | rfl | (simp [errW_none, errW_some] <;> rfl) | (simp [*, errW_none, errW_some] <;> rfl), by repeat (first | (with_reducible first | exact HB.out | apply below_alloc | apply pw_below_drewN | apply below_drew1) | exact HB.out)⟩
      ·replace c12 := Bool.eq_false_iff.mpr c12
       subst c12
       have H1 : (some false) = some r := by rw [if_neg (show ¬ (false = true) by decide)] at H; exact H
       clear H
       have H := H1
       clear H1
       exact absurd (H.trans (congrArg some hrt_.out)) (by simp)
     ·replace c10 := Bool.eq_false_iff.mpr c10
      subst c10
      have H1 : (some false) = some r := by rw [if_neg (show ¬ (false = true) by decide)] at H; exact H
      clear H
      have H := H1
      clear H1
      exact absurd (H.trans (congrArg some hrt_.out)) (by simp)
    ·rw [if_neg c8] at H
     have c8b0 : (t312 == 0) = false := beq_eq_false_iff_ne.mpr c8
     have c8b1 : (t312 != 0) = true := bne_iff_ne.mpr c8
     exact absurd (H.trans (congrArg some hrt_.out)) (by simp)
   ·rw [if_neg c7] at H
    have c7b0 : (t302 == 6) = false := beq_eq_false_iff_ne.mpr c7
    have c7b1 : (t302 != 6) = true := bne_iff_ne.mpr c7
    exact absurd (H.trans (congrArg some hrt_.out)) (by simp)
  ·replace c6 := Bool.eq_false_iff.mpr c6
   subst c6
   have H1 : (some false) = some r := by rw [if_neg (show ¬ (false = true) by decide)] at H; exact H
   clear H
   have H := H1
   clear H1
   exact absurd (H.trans (congrArg some hrt_.out)) (by simp)
 ·rw [if_neg c4] at H
  have c4b0 : (t295 == 0) = false := beq_eq_false_iff_ne.mpr c4
  have c4b1 : (t295 != 0) = true := bne_iff_ne.mpr c4
  exact absurd (H.trans (congrArg some hrt_.out)) (by simp)
end Go.Proofs.Ytoaijganmfijmaa.Pr
-- shrunk
/-
The chapter's example of layer 7: it answers true.
-/
namespace Go.Proofs.Ytoaijganmfijmaa.Pr
open Go.RowKit Go.Proofs.YtoaijganmfijmaaW.PrintWords Go.Proofs.YtoaijganmfijmaaW.PrintLast Go.Proofs.YtoaijganmfijmaaW.PrintMore
set_option linter.unusedVariables false
set_option linter.unusedSimpArgs false
def grapevinelaw07_awake.f : Option Bool := some true
def ex1 : ByteArray := ⟨#[97]⟩
def ex2 : ByteArray := ⟨#[98]⟩
def ex3 : ByteArray := ⟨#[99]⟩
def exP : Ed := ⟨0, 1, [ex2]⟩
def exQ : Hk := ⟨0, 1, 0, 1, blkLines [⟨[], [ex1], [ex2]⟩] []⟩
theorem exQ_eq : exQ = ⟨0, 1, 0, 1, [(⟨#[45, 97]⟩ : ByteArray), (⟨#[43, 98]⟩ : ByteArray)]⟩ := by
 have hl : blkLines [⟨[], [ex1], [ex2]⟩] [] = [(⟨#[45, 97]⟩ : ByteArray), (⟨#[43, 98]⟩ : ByteArray)] := by decide
 rw [exQ, hl]
theorem exOk : BOk true [⟨[], [ex1], [ex2]⟩] := ⟨Or.inl (by simp), Or.inl rfl, trivial⟩
theorem exTakes : Takes [ex1] [ex2] 0 0 [exQ] := by
 refine ⟨0, 0, [⟨[], [ex1], [ex2]⟩], [], ⟨rfl, Nat.le_refl _, Nat.le_refl _, ?_, ?_, rfl, ?_, ?_, exOk⟩, ?_⟩
 ·simp [oldN]
 ·simp [newN]
 ·simp [oldN, oldL]
 ·simp [newN, newL]
 ·refine ⟨?_, ?_, ?_⟩ <;> simp [oldN, newN]
theorem exBetween : between [ex1] [ex2] = [exP] := by
 have e : ¬ ex1 = ex2 := by decide
 simp [between, midEdits, midOf, endOf, frontOf, common, steps, lcsLen, edits, addDel, addIns, opened, edLast, e, exP]
theorem exMake : makeH [ex1] 0 0 [exP] = [exQ] := by
 have e1 : fromH exP 0 = 0 := rfl
 have e2 : toH [ex1] exP [] 0 = 1 := rfl
 have e3 : linesH [ex1] 0 exP [] = blkLines [⟨[], [ex1], [ex2]⟩] [] := rfl
 rw [makeH, grp, makeH, hunkOf, e1, e2, e3]
 rfl
theorem exLines : exQ.f4.length = 2 := by rw [exQ_eq]; rfl
theorem exSmall (a : List ByteArray) (h : a.length ≤ 65536) : SmallA a [exQ] := by
 refine ⟨h, by simp, fun x hx => ?_⟩
 rw [List.mem_singleton] at hx
 subst hx
 exact ⟨by rw [exLines]; omega, by decide, by decide, by decide, by decide⟩
theorem exYes : apply_Apply.f [ex1] [exQ] = some ([ex2], 0) := by
 rw [apply_Apply.f, if_pos (exSmall _ (by simp)), takes_applyP exTakes]
theorem exNo : apply_Apply.f [ex3] [exQ] = some ([], 6) := by
 have hr := takes_right _ _ _ _ _ exTakes
 have h := (exact_all [ex1] [ex2] 0 ex3 (by simp) (by decide) [exQ] 0 0 [] exTakes (Nat.le_refl _)).1 ⟨exQ, List.mem_singleton.2 rfl, by decide, by decide⟩
 have e : [ex1].set 0 ex3 = [ex3] := rfl
 rw [e] at h
 rw [apply_Apply.f, if_pos (exSmall _ (by simp)), applyP, if_pos (by simpa using hr), h]
theorem exBig : BigL [exQ] := by
 intro x hx
 rw [List.mem_singleton] at hx
 subst hx
 refine ⟨by rw [exLines]; omega, fun s hs => ?_⟩
 rw [exQ_eq] at hs
 simp only [List.mem_cons, List.not_mem_nil, or_false] at hs
 rcases hs with rfl | rfl <;> show 2 ≤ _ <;> omega
theorem awake_ev : Ev (fun k => grapevinelaw07_awake0.f k) true := by
 unfold grapevinelaw07_awake0.f
 rw [← exQ_eq, show (⟨#[97]⟩ : ByteArray) = ex1 from rfl, show (⟨#[98]⟩ : ByteArray) = ex2 from rfl, show (⟨#[99]⟩ : ByteArray) = ex3 from rfl]
 have hm := Make_ev [ex1] [exP] 0 (by simp) (by simp) (by intro s hs; rw [List.mem_singleton] at hs; subst hs; show 1 ≤ _; omega) (by intro e he s hs; rw [List.mem_singleton] at he; subst he; rw [exP, List.mem_singleton] at hs; subst hs; show 1 ≤ _; omega) (by omega) (by omega) (by decide) (by decide)
 rw [exMake] at hm
 have hb : Ev (fun k => apply_Between.f k [ex1] [ex2] 0) ([exQ], 0) := by
  unfold apply_Between.f
  refine Ev.bind (a := [exP]) (Ev.none_of fun _ => by rw [diff_Diff.f, if_pos (by simp), exBetween]) ?_
  refine Ev.bind hm ?_
  exact Ev.now _
 have hr := takes_right _ _ _ _ _ exTakes
 refine Ev.bind (Ev.none_of fun _ => rfl) ?_
 refine Ev.bind (Ev.none_of fun _ => exYes) ?_
 refine Ev.bind (Ev.none_of fun _ => exNo) ?_
 refine Ev.bind hb ?_
 simp only [if_true]
 have ht := Texts_ev [ex2] [ex2] (by simp)
 rw [decide_eq_true rfl] at ht
 refine Ev.bind ht ?_
 simp only [if_true]
 refine Ev.bind (SameH_ev [exQ] (by simp) (by intro x hx; rw [List.mem_singleton] at hx; subst hx; rw [exLines]; omega)) ?_
 simp only [if_true]
 have hri := ARight_ev (exSmall [ex1] (by simp))
 rw [show rightP 0 0 [exQ] = true by simpa using hr] at hri
 refine Ev.bind hri ?_
 simp only [if_true]
 obtain ⟨m, hm1, hm2⟩ := takes_turn _ _ _ _ _ exTakes
 refine Ev.bind (ATurn_ev (exSmall [ex1] (by simp)) exBig (by simpa using hr) hm1) ?_
 rw [turned_len hm1]
 exact Ev.now _
theorem grapevinelaw07_awake.calls (r : Bool) (w : World) (h : grapevinelaw07_awake.f = some r) :
  Calls Try.prog 10 #[] w fun e w' => e = .returned (.bool r) ∧ Below w.heap.size w w' := by
 obtain rfl : true = r := Option.some.inj h
 obtain ⟨k, hk⟩ := awake_ev.rounds
 exact grapevinelaw07_awake0.calls k true w ⟨rfl⟩ hk
end Go.Proofs.Ytoaijganmfijmaa.Pr
-- shrunk
/-
How many lines hunks make.
-/
namespace Go.Proofs.Ytoaijganmfijmaa.Pr
open Go.RowKit Go.Proofs.YtoaijganmfijmaaW.PrintWords Go.Proofs.YtoaijganmfijmaaW.PrintLast Go.Proofs.YtoaijganmfijmaaW.PrintMore
set_option linter.unusedVariables false
set_option linter.unusedSimpArgs false
theorem allP_len (a : List ByteArray) (ha : a.length ≤ 65536) : ∀ (l : List Hk) (d : Nat) (out o : List ByteArray) (p : Nat), (∀ h ∈ l, h.f4.length ≤ 65536) → allP a d out l = some (o, p) → o.length ≤ out.length + l.length * 131072
 | [], d, out, o, p, _, h => by
  rw [allP] at h
  simp only [Option.some.injEq, Prod.mk.injEq] at h
  rw [← h.1]; simp
 | x :: l, d, out, o, p, hl, h => by
  rw [allP] at h
  cases e : oneP a d x.f0 x.f4 out with
  | none => rw [e] at h; cases h
  | some q =>
   rw [e] at h
   have ih := allP_len a ha l q.2 q.1 o p (fun h hh => hl h (List.mem_cons_of_mem _ hh)) h
   have hx := hl x List.mem_cons_self
   unfold oneP at e
   by_cases c : x.f0 ≤ a.length
   ·rw [if_pos c] at e
    have := (lineP_le a x.f4 _ _ q.1 q.2 (by omega) e).2
    rw [List.length_append, List.length_drop, List.length_take] at this
    rw [List.length_cons]
    omega
   ·rw [if_neg c] at e; cases e
theorem applyP_len {a : List ByteArray} {l : List Hk} (hs : SmallA a l) : (applyP a l).1.length ≤ 1073741824 := by
 unfold applyP
 by_cases c : rightP 0 0 l = true
 ·rw [if_pos c]
  cases e : allP a 0 [] l with
  | none => simp
  | some q =>
   have h := allP_len a hs.1 l 0 [] q.1 q.2 (fun h hh => (hs.2.2 h hh).1) e
   have h1 := hs.1
   have h2 := hs.2.1
   simp only [List.length_append, List.length_drop, List.length_nil] at h ⊢
   omega
 ·rw [if_neg c]; simp
theorem apply_some {a : List ByteArray} {l : List Hk} (hs : SmallA a l) : apply_Apply.f a l = some (applyP a l) := by rw [apply_Apply.f, if_pos hs]
end Go.Proofs.Ytoaijganmfijmaa.Pr
-- shrunk
