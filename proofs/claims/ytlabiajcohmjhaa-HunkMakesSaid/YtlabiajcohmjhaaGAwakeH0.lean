-- written by a program of this session's (a turned copy of the kit's printer); Lean checks it
import Derived.Test.YtlabiajcohmjhaaD0
import Derived.Test.YtlabiajcohmjhaaD3a
import Derived.Test.YtlabiajcohmjhaaD3b
import Derived.Test.YtlabiajcohmjhaaD3d
import Derived.Test.YtlabiajcohmjhaaD5
import Derived.Test.YtlabiajcohmjhaaD6a
namespace Go.Proofs.Ytlabiajcohmjhaa.Pr
open Go.RowKit Go.Proofs.YtlabiajcohmjhaaW.PrintWords Go.Proofs.YtlabiajcohmjhaaW.PrintLast Go.Proofs.YtlabiajcohmjhaaW.PrintMore
attribute [local go_sem] max2_int min2_int max_two min_two max_three min_three max_four min_four   -- for this text's walks alone
set_option linter.unusedVariables false
set_option linter.unusedSimpArgs false

def grapevinelaw05_awake0.j0 : Nat → List (S33) → Bool → Option (Bool)
 | 0, _, _ => none
 | k + 1, x1, x18 => if x18 = true then (some false) else (if 0 < (x1.length : Int) then ((hunk_Edits.f k ((rd_T33 x1 0).f0) ((rd_T33 x1 0).f1) ((rd_T33 x1 0).f2) ((rd_T33 x1 0).f3) ((rd_T33 x1 0).f4)).bind fun t307 => ((grapevineref05_One.f k ((rd_T33 x1 0).f0) ((rd_T33 x1 0).f1) ((rd_T33 x1 0).f2) ((rd_T33 x1 0).f3) ((rd_T33 x1 0).f4) 0 3 0 3 (([(⟨#[32, 97]⟩ : ByteArray), (⟨#[45, 98]⟩ : ByteArray), (⟨#[43, 120]⟩ : ByteArray), (⟨#[32, 99]⟩ : ByteArray)] : List ByteArray))).bind fun t314 => (if t314 = true then ((hunk_Right.f k ((rd_T33 x1 0).f0) ((rd_T33 x1 0).f1) ((rd_T33 x1 0).f2) ((rd_T33 x1 0).f3) ((rd_T33 x1 0).f4)).bind fun t316 => (if t316 = true then (if (t307.length : Int) = 1 then (if 0 < (t307.length : Int) then (if ((rd_T51 t307 0).f0) = 1 then ((hunk_Turn.f k ((rd_T33 x1 0).f0) ((rd_T33 x1 0).f1) ((rd_T33 x1 0).f2) ((rd_T33 x1 0).f3) ((rd_T33 x1 0).f4)).bind fun bt319 => (if 1 < (bt319.2.2.2.2.length : Int) then (some ((rdOf ByteArray.empty bt319.2.2.2.2 1).toList == ([45, 120] : List UInt8))) else (none))) else (some false)) else (none)) else (some false)) else (some false))) else (some false)))) else (none))
def grapevinelaw05_awake0.f (k : Nat)  : Option (Bool) := (hunk_Make.f k (([(⟨#[97]⟩ : ByteArray), (⟨#[98]⟩ : ByteArray), (⟨#[99]⟩ : ByteArray)] : List ByteArray)) (([(⟨1, 1, (([(⟨#[120]⟩ : ByteArray)] : List ByteArray))⟩ : S51)] : List (S51))) 1).bind fun bt302 => (if bt302.2 = 0 then (grapevinelaw05_awake0.j0 k bt302.1 ((bt302.1.length : Int) != 1)) else (grapevinelaw05_awake0.j0 k bt302.1 true))
theorem grapevinelaw05_awake0.mono_l : ∀ k, (∀ y0 y1, LeO (grapevinelaw05_awake0.j0 k y0 y1) (grapevinelaw05_awake0.j0 (k + 1) y0 y1))
 | 0 => fun _ _ r h => by simp [grapevinelaw05_awake0.j0] at h
 | k + 1 => by
  have ih0 := grapevinelaw05_awake0.mono_l k
  ·intro y0 y1
   unfold grapevinelaw05_awake0.j0
   repeat' first
   | (with_reducible exact ih0 _ _)
   | (with_reducible exact grapevineref05_One.mono _ _ _ _ _ _ _ _ _ _ _)
   | (with_reducible exact hunk_Edits.mono _ _ _ _ _ _)
   | (with_reducible exact hunk_Make.mono _ _ _ _)
   | (with_reducible exact hunk_Right.mono _ _ _ _ _ _)
   | (with_reducible exact hunk_Turn.mono _ _ _ _ _ _)
   | (with_reducible exact LeO.refl _)
   | (with_reducible exact LeO.none _)
   | (with_reducible refine LeO.ite ?_ ?_)
   | (with_reducible refine LeO.bind ?_ (fun _ => ?_))
   | exact ih0 _ _
   | exact grapevineref05_One.mono _ _ _ _ _ _ _ _ _ _ _
   | exact hunk_Edits.mono _ _ _ _ _ _
   | exact hunk_Make.mono _ _ _ _
   | exact hunk_Right.mono _ _ _ _ _ _
   | exact hunk_Turn.mono _ _ _ _ _ _
   | exact LeO.none _
   | refine LeO.ite ?_ ?_
   | refine LeO.bind ?_ (fun _ => ?_)
theorem grapevinelaw05_awake0.mono : ∀ k, LeO (grapevinelaw05_awake0.f k ) (grapevinelaw05_awake0.f (k + 1) ) := by
 intro  k
 have ih0 := grapevinelaw05_awake0.mono_l k
 unfold grapevinelaw05_awake0.f
 repeat' first
   | (with_reducible exact ih0 _ _)
   | (with_reducible exact grapevineref05_One.mono _ _ _ _ _ _ _ _ _ _ _)
   | (with_reducible exact hunk_Edits.mono _ _ _ _ _ _)
   | (with_reducible exact hunk_Make.mono _ _ _ _)
   | (with_reducible exact hunk_Right.mono _ _ _ _ _ _)
   | (with_reducible exact hunk_Turn.mono _ _ _ _ _ _)
   | (with_reducible exact LeO.refl _)
   | (with_reducible exact LeO.none _)
   | (with_reducible refine LeO.ite ?_ ?_)
   | (with_reducible refine LeO.bind ?_ (fun _ => ?_))
   | exact ih0 _ _
   | exact grapevineref05_One.mono _ _ _ _ _ _ _ _ _ _ _
   | exact hunk_Edits.mono _ _ _ _ _ _
   | exact hunk_Make.mono _ _ _ _
   | exact hunk_Right.mono _ _ _ _ _ _
   | exact hunk_Turn.mono _ _ _ _ _ _
   | exact LeO.none _
   | refine LeO.ite ?_ ?_
   | refine LeO.bind ?_ (fun _ => ?_)
set_option maxHeartbeats 8000000 in
set_option maxRecDepth 100000 in
theorem grapevinelaw05_awake0.calls (k : Nat)  (r : Bool) (w : World) (hrt_ : Aside0 (r = true)) (h : grapevinelaw05_awake0.f k  = some r) :
  Calls Try.prog 9 #[] w fun e w' => e = .returned (.bool r) ∧ Below w.heap.size w w' := by
 have hu51 := Try.underlying51
 have hfd33_4 : ∀ (a b c d v : Value) (w : World), (Instr.field 33 (.agg #[a, b, c, d, v]) 4).run Try.prog w = .ok v w := fun _ _ _ _ _ _ => by kernel_rfl
 have hu33 := Try.underlying33
 have HB := Aside0.mk (Below.refl w.heap.size w)
 have H : ((hunk_Make.f k (([(⟨#[97]⟩ : ByteArray), (⟨#[98]⟩ : ByteArray), (⟨#[99]⟩ : ByteArray)] : List ByteArray)) (([(⟨1, 1, (([(⟨#[120]⟩ : ByteArray)] : List ByteArray))⟩ : S51)] : List (S51))) 1).bind fun bt302 => (if bt302.2 = 0 then (grapevinelaw05_awake0.j0 k bt302.1 ((bt302.1.length : Int) != 1)) else (grapevinelaw05_awake0.j0 k bt302.1 true))) = some r := h
 clear h
 obtain ⟨y293, hy293⟩ : ∃ y_ : List ByteArray, y_ = (([(⟨#[97]⟩ : ByteArray), (⟨#[98]⟩ : ByteArray), (⟨#[99]⟩ : ByteArray)] : List ByteArray)) := ⟨_, rfl⟩
 replace H : ((hunk_Make.f k y293 (([(⟨1, 1, (([(⟨#[120]⟩ : ByteArray)] : List ByteArray))⟩ : S51)] : List (S51))) 1).bind fun bt302 => (if bt302.2 = 0 then (grapevinelaw05_awake0.j0 k bt302.1 ((bt302.1.length : Int) != 1)) else (grapevinelaw05_awake0.j0 k bt302.1 true))) = some r := by first | (rw [hy293]; with_reducible exact H) | (have H2_ := (Option.bind_some _ _).symm.trans H; rw [hy293]; with_reducible exact H2_) | (have H2_ := (Option.bind_some _ _).symm.trans H; with_reducible exact H2_) | with_reducible exact H | (rw [hy293]; exact H) | exact H
 have Ny293 := Aside0.mk hy293
 clear hy293
 obtain ⟨y296, hy296⟩ : ∃ y_ : List ByteArray, y_ = (([(⟨#[120]⟩ : ByteArray)] : List ByteArray)) := ⟨_, rfl⟩
 replace H : ((hunk_Make.f k y293 (([(⟨1, 1, y296⟩ : S51)] : List (S51))) 1).bind fun bt302 => (if bt302.2 = 0 then (grapevinelaw05_awake0.j0 k bt302.1 ((bt302.1.length : Int) != 1)) else (grapevinelaw05_awake0.j0 k bt302.1 true))) = some r := by first | (rw [hy296]; with_reducible exact H) | (have H2_ := (Option.bind_some _ _).symm.trans H; rw [hy296]; with_reducible exact H2_) | (have H2_ := (Option.bind_some _ _).symm.trans H; with_reducible exact H2_) | with_reducible exact H | (rw [hy296]; exact H) | exact H
 have Ny296 := Aside0.mk hy296
 clear hy296
 obtain ⟨y299, hy299⟩ : ∃ y_ : List (S51), y_ = (([(⟨1, 1, y296⟩ : S51)] : List (S51))) := ⟨_, rfl⟩
 replace H : ((hunk_Make.f k y293 y299 1).bind fun bt302 => (if bt302.2 = 0 then (grapevinelaw05_awake0.j0 k bt302.1 ((bt302.1.length : Int) != 1)) else (grapevinelaw05_awake0.j0 k bt302.1 true))) = some r := by first | (rw [hy299]; with_reducible exact H) | (have H2_ := (Option.bind_some _ _).symm.trans H; rw [hy299]; with_reducible exact H2_) | (have H2_ := (Option.bind_some _ _).symm.trans H; with_reducible exact H2_) | with_reducible exact H | (rw [hy299]; exact H) | exact H
 have Ny299 := Aside0.mk hy299
 clear hy299
 replace H := Option.bind_eq_some_iff.mp H
 obtain ⟨⟨t302, t305⟩, A10, H⟩ := H
 replace H : (if t305 = 0 then (grapevinelaw05_awake0.j0 k t302 ((t302.length : Int) != 1)) else (grapevinelaw05_awake0.j0 k t302 true)) = some r := H
 have A1 := Aside0.mk A10
 clear A10
 have HC2 := Aside0.mk H
 clear H
 go_enter Try.func9, Try.ntmps9
 go_upto_region 2 with (first | ((with_reducible refine gate_dst (N := 5) rfl ?_); (try (refine gate_guard (by rfl) ?_; dsimp only)); refine Kd.R_lit Kd.string _ 9 ?hg (N := 5) ?hd (xs := ([(⟨#[97]⟩ : ByteArray), (⟨#[98]⟩ : ByteArray), (⟨#[99]⟩ : ByteArray)] : List ByteArray)) (inner := [.string (⟨#[97]⟩ : ByteArray), .string (⟨#[98]⟩ : ByteArray), .string (⟨#[99]⟩ : ByteArray)]) (ok := fun _ => True) (okp := fun _ => True) ?hr ?hp (fun _ hk => hk) trivial (Below.refl _ _) (Nat.le_refl _) (by simp) ?_; (case hd => rfl); (case hg => rfl); (case hr => first | (go_simp; done) | (go_simp; rfl)); (case hp => exact (Reps.one (show Kd.M Kd.string _ _ _ (⟨#[97]⟩ : ByteArray) [.string (⟨#[97]⟩ : ByteArray)] from rfl) (Reps.one (show Kd.M Kd.string _ _ _ (⟨#[98]⟩ : ByteArray) [.string (⟨#[98]⟩ : ByteArray)] from rfl) (Reps.one (show Kd.M Kd.string _ _ _ (⟨#[99]⟩ : ByteArray) [.string (⟨#[99]⟩ : ByteArray)] from rfl) (Reps.none _ _))))); intro v294 w3 ho4 hb hg_ hnew_; clear hg_ hnew_; (first | rw [← Ny293.out] at ho4 | (simp only [Int.reduceToNat] at ho4; rw [← Ny293.out] at ho4)); have n0_ := Aside0.mk (Kd.R_lower ho4 (below_size (by repeat (first | (with_reducible first | exact HB.out | apply below_alloc | apply pw_below_drewN | apply below_drew1) | exact HB.out)))); have n1_ := Aside0.mk (below_step (by repeat (first | (with_reducible first | exact HB.out | apply below_alloc | apply pw_below_drewN | apply below_drew1) | exact HB.out)) hb); clear HB; have HO295 := n0_; have HB := n1_; clear n0_ n1_; clear hb ho4) | ((with_reducible refine gate_dst (N := 6) rfl ?_); (try (refine gate_guard (by rfl) ?_; dsimp only)); refine Kd.R_lit Kd.string _ 9 ?hg (N := 6) ?hd (xs := ([(⟨#[120]⟩ : ByteArray)] : List ByteArray)) (inner := [.string (⟨#[120]⟩ : ByteArray)]) (ok := fun _ => True) (okp := fun _ => True) ?hr ?hp (fun _ hk => hk) trivial (Below.refl _ _) (Nat.le_refl _) (by simp) ?_; (case hd => rfl); (case hg => rfl); (case hr => first | (go_simp; done) | (go_simp; rfl)); (case hp => exact (Reps.one (show Kd.M Kd.string _ _ _ (⟨#[120]⟩ : ByteArray) [.string (⟨#[120]⟩ : ByteArray)] from rfl) (Reps.none _ _))); intro v297 w5 ho6 hb hg_ hnew_; clear hg_ hnew_; (first | rw [← Ny296.out] at ho6 | (simp only [Int.reduceToNat] at ho6; rw [← Ny296.out] at ho6)); have n0_ := Aside0.mk (Kd.R_elder' (by (with_reducible repeat (first | apply Kd.R_alloc | apply Kd.R_drewN | apply Kd.R_drew)); exact HO295.out) (Kd.R_base ho6) hb); have n1_ := Aside0.mk (Kd.R_lower (Kd.R_new' ho6 (Kd.R_lt (by (with_reducible repeat (first | apply Kd.R_alloc | apply Kd.R_drewN | apply Kd.R_drew)); exact HO295.out))) (below_size (by repeat (first | (with_reducible first | exact HB.out | apply below_alloc | apply pw_below_drewN | apply below_drew1) | exact HB.out)))); have n2_ := Aside0.mk (below_step (by repeat (first | (with_reducible first | exact HB.out | apply below_alloc | apply pw_below_drewN | apply below_drew1) | exact HB.out)) hb); clear HO295; clear HB; have HO295 := n0_; have HO298 := n1_; have HB := n2_; clear n0_ n1_ n2_; clear hb ho6; obtain ⟨Ao7, co7, eo7⟩ := Kd.R_slice HO298.out; subst eo7) | ((with_reducible refine gate_dst (N := 8) rfl ?_); (try (refine gate_guard (by rfl) ?_; dsimp only)); refine Kd.N_lit k51 _ 51 ?hg (N' := 8) ?hd (xs := ([(⟨1, 1, y296⟩ : S51)] : List (S51))) (inner := [.int .i64 1, .int .i64 1, .slice Ao7 y296.length co7]) (ok := (fun k_ => some k_ ≠ (v294 : Value).ownBlock)) (okp := (fun k_ => some k_ ≠ (v294 : Value).ownBlock)) ?hr ?hp (fun _ hk => hk) ((show ∀ k_, w5.heap.size ≤ k_ → (fun k_ => some k_ ≠ (v294 : Value).ownBlock) k_ from fun k_ hk => Kd.fresh' (Kd.R_lt (by (with_reducible repeat (first | apply Kd.R_alloc | apply Kd.R_drewN | apply Kd.R_drew)); exact HO295.out)) k_ hk) _ (Nat.le_refl _)) (Below.refl _ _) (Nat.le_refl _) (by simp) ?_; (case hd => rfl); (case hg => rfl); (case hr => first | (go_simp; done) | (go_simp; rfl)); (case hp => exact (Reps.c3 (show Kd.FK k51 _ _ (⟨1, 1, y296⟩ : S51) [.int .i64 1, .int .i64 1, .slice Ao7 y296.length co7] from (k51_mkF _ _ (⟨1, 1, y296⟩ : S51) (Kd.R_reads' (Kd.R_mono (ok' := (fun k_ => some k_ ≠ (v294 : Value).ownBlock)) (HO298.out) (fun k_ hk => hk.2))).2.1 (Kd.R_F (Kd.R_mono (ok' := (fun k_ => some k_ ≠ (v294 : Value).ownBlock)) (HO298.out) (fun k_ hk => hk.2))))) (Reps.none _ _))); intro v300 w8 ho9 hb hg_ hnew_; clear hg_ hnew_; (first | rw [← Ny299.out] at ho9 | (simp only [Int.reduceToNat] at ho9; rw [← Ny299.out] at ho9)); have n0_ := Aside0.mk (Kd.R_below (by (with_reducible repeat (first | apply Kd.R_alloc | apply Kd.R_drewN | apply Kd.R_drew)); exact HO295.out) hb); have n1_ := Aside0.mk (Kd.N_lower ho9 (below_size (by repeat (first | (with_reducible first | exact HB.out | apply below_alloc | apply pw_below_drewN | apply below_drew1) | exact HB.out)))); have n2_ := Aside0.mk (below_step (by repeat (first | (with_reducible first | exact HB.out | apply below_alloc | apply pw_below_drewN | apply below_drew1) | exact HB.out)) hb); clear HO295; clear HB; clear HO298; have HO295 := n0_; have HO301 := n1_; have HB := n2_; clear n0_ n1_ n2_; clear hb ho9; obtain ⟨Ao10, co10, eo10⟩ := Kd.R_slice HO295.out; subst eo10; obtain ⟨Ao11, co11, eo11⟩ := Kd.N_slice HO301.out; subst eo11) | ((with_reducible refine gate_callee (f := 11) rfl ?_); refine goesL_ (some 9) rfl rfl Try.func11 (by kernel_rfl) rfl #[.slice Ao10 y293.length co10, .slice Ao11 y299.length co11, .int .i64 1] rfl (by (try simp only [List.map_toArray, List.map_cons, List.map_nil]); first | done | rfl | (simp only [List.length_drop, List.length_take]; rfl)) ?_; (with_reducible refine (hunk_Make.calls k _ _ y293 (fun k_ => some k_ ≠ (.slice Ao10 y293.length co10 : Value).ownBlock) _ _ y299 1 t302 t305 _ ?side1 ?side2 ?side3 A1.out).mono ?_); (case side1 => repeat (first | exact (Kd.R_reads' HO295.out).2.2 | (with_reducible refine Kd.C_alloc ?_ _) | (with_reducible refine Kd.C_drewN ?_ _) | (with_reducible refine Kd.C_drew ?_))); (case side2 => exact (Kd.R_reads' HO295.out).2.1); (case side3 => exact Kd.N_V (HO301.out)); rintro e w12 ⟨v303, rfl, ho0, hb⟩; refine ⟨_, rfl, ?_⟩; have n0_ := Aside0.mk (Kd.R_below (by (with_reducible repeat (first | apply Kd.R_alloc | apply Kd.R_drewN | apply Kd.R_drew)); exact HO295.out) hb); have n1_ := Aside0.mk (Kd.N_elder' (by (with_reducible repeat (first | apply Kd.N_alloc | apply Kd.N_drewN | apply Kd.N_drew)); exact HO301.out) (by first | exact Kd.N_base ho0 | exact Kd.S_base ho0) hb); have n2_ := Aside0.mk (Kd.N_lower (by first | exact (Kd.N_mono (ok' := fun k_ => some k_ ≠ (.slice Ao10 y293.length co10 : Value).ownBlock) ho0 (fun k_ hk_ => Or.elim hk_ (fun hs_ => hs_) (fun hn_ => (Kd.fresh' (Kd.R_lt (by (with_reducible repeat (first | apply Kd.R_alloc | apply Kd.R_drewN | apply Kd.R_drew)); exact HO295.out)) k_ hn_)))) | exact (Kd.N_mono (ok' := fun k_ => some k_ ≠ (.slice Ao10 y293.length co10 : Value).ownBlock) (Kd.S_N ho0) (fun k_ hk_ => (fun hn_ => (Kd.fresh' (Kd.R_lt (by (with_reducible repeat (first | apply Kd.R_alloc | apply Kd.R_drewN | apply Kd.R_drew)); exact HO295.out)) k_ hn_)) hk_))) (below_size (by repeat (first | (with_reducible first | exact HB.out | apply below_alloc | apply pw_below_drewN | apply below_drew1) | exact HB.out)))); have n3_ := Aside0.mk (below_step (by repeat (first | (with_reducible first | exact HB.out | apply below_alloc | apply pw_below_drewN | apply below_drew1) | exact HB.out)) hb); clear HO295; clear HO301; clear HB; have HO295 := n0_; have HO301 := n1_; have HO304 := n2_; have HB := n3_; clear n0_ n1_ n2_ n3_; (try clear hb); (try clear hb2); (try clear hk); (try clear hi); (try clear ho0)))
 (try simp only [Act.put, List.setIfInBounds_toArray, List.set_cons_zero, List.set_cons_succ])
 go_cut [18] (fun v18 wc => ∃ (kq : Nat) (x18_1 : Bool), v18 = .bool x18_1 ∧ Aside0 (grapevinelaw05_awake0.j0 kq t302 x18_1 = some r) ∧ Aside0 (kq ≤ k) ∧ Aside0 (Kd.N k33 33 wc w.heap.size (fun _ => True) v303 t302) ∧ Aside0 (Below w.heap.size w wc))
 case first =>
  have H := HC2.out
  clear HC2
  by_cases c13 : t305 = 0
  ·rw [if_pos c13] at H
   have c13b0 : (t305 == 0) = true := beq_iff_eq.mpr c13
   have c13b1 : (t305 != 0) = false := bne_eq_false_iff_eq.mpr c13
   clear c13
   (first | rw [c13b0] | (simp only [i64_w, i32_w]; rw [c13b0]) | skip)
   have H' := Aside0.mk H
   clear H
   obtain ⟨Ao14, co14, eo14⟩ := Kd.N_slice HO304.out
   subst eo14
   go_wp2
   go_meet
   case rel => exact ⟨_, (((t302.length : Int) != 1)), (by first | rfl | (simp; done) | (simp [*]; done)), H', ⟨by first | omega | exact Nat.le_refl _⟩, ⟨by (with_reducible repeat (first | apply Kd.N_alloc | apply Kd.N_drewN | apply Kd.N_drew)); exact Kd.N_mono HO304.out (fun _ hk => trivial)⟩, ⟨by repeat (first | (with_reducible first | exact HB.out | apply below_alloc | apply pw_below_drewN | apply below_drew1) | exact HB.out)⟩⟩
  ·rw [if_neg c13] at H
   have c13b0 : (t305 == 0) = false := beq_eq_false_iff_ne.mpr c13
   have c13b1 : (t305 != 0) = true := bne_iff_ne.mpr c13
   (first | rw [c13b0] | (simp only [i64_w, i32_w]; rw [c13b0]) | skip)
   have H' := Aside0.mk H
   clear H
   go_wp2
   go_meet
   case rel => exact ⟨_, (true), (by first | rfl | (simp; done) | (simp [*]; done)), H', ⟨by first | omega | exact Nat.le_refl _⟩, ⟨by (with_reducible repeat (first | apply Kd.N_alloc | apply Kd.N_drewN | apply Kd.N_drew)); exact Kd.N_mono HO304.out (fun _ hk => trivial)⟩, ⟨by repeat (first | (with_reducible first | exact HB.out | apply below_alloc | apply pw_below_drewN | apply below_drew1) | exact HB.out)⟩⟩
 case rest =>
  clear HC2
  try clear c1
  try clear p2
  try clear c3
  try clear c9
  try clear c11
  try clear c13
  try clear c13b0
  try clear c13b1
  obtain ⟨kq, x18_1, rfl, HA, HJ1, HO_1, HB⟩ := hcut
  cases kq with
  | zero => exact absurd HA.out (by simp [grapevinelaw05_awake0.j0])
  | succ kj1 =>
   have H := HA.out
   clear HA
   simp only [grapevinelaw05_awake0.j0] at H
   by_cases c15 : x18_1 = true
   ·subst c15
    have H1 : (some false) = some r := by rw [if_pos rfl] at H; exact H
    clear H
    have H := H1
    clear H1
    exact absurd (H.trans (congrArg some hrt_.out)) (by simp)
   ·replace c15 := Bool.eq_false_iff.mpr c15
    subst c15
    have H1 : (if 0 < (t302.length : Int) then ((hunk_Edits.f kj1 ((rd_T33 t302 0).f0) ((rd_T33 t302 0).f1) ((rd_T33 t302 0).f2) ((rd_T33 t302 0).f3) ((rd_T33 t302 0).f4)).bind fun t307 => ((grapevineref05_One.f kj1 ((rd_T33 t302 0).f0) ((rd_T33 t302 0).f1) ((rd_T33 t302 0).f2) ((rd_T33 t302 0).f3) ((rd_T33 t302 0).f4) 0 3 0 3 (([(⟨#[32, 97]⟩ : ByteArray), (⟨#[45, 98]⟩ : ByteArray), (⟨#[43, 120]⟩ : ByteArray), (⟨#[32, 99]⟩ : ByteArray)] : List ByteArray))).bind fun t314 => (if t314 = true then ((hunk_Right.f kj1 ((rd_T33 t302 0).f0) ((rd_T33 t302 0).f1) ((rd_T33 t302 0).f2) ((rd_T33 t302 0).f3) ((rd_T33 t302 0).f4)).bind fun t316 => (if t316 = true then (if (t307.length : Int) = 1 then (if 0 < (t307.length : Int) then (if ((rd_T51 t307 0).f0) = 1 then ((hunk_Turn.f kj1 ((rd_T33 t302 0).f0) ((rd_T33 t302 0).f1) ((rd_T33 t302 0).f2) ((rd_T33 t302 0).f3) ((rd_T33 t302 0).f4)).bind fun bt319 => (if 1 < (bt319.2.2.2.2.length : Int) then (some ((rdOf ByteArray.empty bt319.2.2.2.2 1).toList == ([45, 120] : List UInt8))) else (none))) else (some false)) else (none)) else (some false)) else (some false))) else (some false)))) else (none)) = some r := by rw [if_neg (show ¬ (false = true) by decide)] at H; exact H
    clear H
    have H := H1
    clear H1
    by_cases c16 : 0 < (t302.length : Int)
    ·rw [if_pos c16] at H
     have c16b0 : decide (0 < (t302.length : Int)) = true := decide_eq_true c16
     have c16b1 : decide (0 < t302.length) = true := decide_eq_true (by omega)
     clear c16
     replace H := Option.bind_eq_some_iff.mp H
     obtain ⟨t307, A170, H⟩ := H
     replace H : ((grapevineref05_One.f kj1 ((rd_T33 t302 0).f0) ((rd_T33 t302 0).f1) ((rd_T33 t302 0).f2) ((rd_T33 t302 0).f3) ((rd_T33 t302 0).f4) 0 3 0 3 (([(⟨#[32, 97]⟩ : ByteArray), (⟨#[45, 98]⟩ : ByteArray), (⟨#[43, 120]⟩ : ByteArray), (⟨#[32, 99]⟩ : ByteArray)] : List ByteArray))).bind fun t314 => (if t314 = true then ((hunk_Right.f kj1 ((rd_T33 t302 0).f0) ((rd_T33 t302 0).f1) ((rd_T33 t302 0).f2) ((rd_T33 t302 0).f3) ((rd_T33 t302 0).f4)).bind fun t316 => (if t316 = true then (if (t307.length : Int) = 1 then (if 0 < (t307.length : Int) then (if ((rd_T51 t307 0).f0) = 1 then ((hunk_Turn.f kj1 ((rd_T33 t302 0).f0) ((rd_T33 t302 0).f1) ((rd_T33 t302 0).f2) ((rd_T33 t302 0).f3) ((rd_T33 t302 0).f4)).bind fun bt319 => (if 1 < (bt319.2.2.2.2.length : Int) then (some ((rdOf ByteArray.empty bt319.2.2.2.2 1).toList == ([45, 120] : List UInt8))) else (none))) else (some false)) else (none)) else (some false)) else (some false))) else (some false))) = some r := H
     have A17 := Aside0.mk A170
     clear A170
     obtain ⟨y311, hy311⟩ : ∃ y_ : List ByteArray, y_ = (([(⟨#[32, 97]⟩ : ByteArray), (⟨#[45, 98]⟩ : ByteArray), (⟨#[43, 120]⟩ : ByteArray), (⟨#[32, 99]⟩ : ByteArray)] : List ByteArray)) := ⟨_, rfl⟩
     replace H : ((grapevineref05_One.f kj1 ((rd_T33 t302 0).f0) ((rd_T33 t302 0).f1) ((rd_T33 t302 0).f2) ((rd_T33 t302 0).f3) ((rd_T33 t302 0).f4) 0 3 0 3 y311).bind fun t314 => (if t314 = true then ((hunk_Right.f kj1 ((rd_T33 t302 0).f0) ((rd_T33 t302 0).f1) ((rd_T33 t302 0).f2) ((rd_T33 t302 0).f3) ((rd_T33 t302 0).f4)).bind fun t316 => (if t316 = true then (if (t307.length : Int) = 1 then (if 0 < (t307.length : Int) then (if ((rd_T51 t307 0).f0) = 1 then ((hunk_Turn.f kj1 ((rd_T33 t302 0).f0) ((rd_T33 t302 0).f1) ((rd_T33 t302 0).f2) ((rd_T33 t302 0).f3) ((rd_T33 t302 0).f4)).bind fun bt319 => (if 1 < (bt319.2.2.2.2.length : Int) then (some ((rdOf ByteArray.empty bt319.2.2.2.2 1).toList == ([45, 120] : List UInt8))) else (none))) else (some false)) else (none)) else (some false)) else (some false))) else (some false))) = some r := by first | (rw [hy311]; with_reducible exact H) | (have H2_ := (Option.bind_some _ _).symm.trans H; rw [hy311]; with_reducible exact H2_) | (have H2_ := (Option.bind_some _ _).symm.trans H; with_reducible exact H2_) | with_reducible exact H | (rw [hy311]; exact H) | exact H
     have Ny311 := Aside0.mk hy311
     clear hy311
     replace H := Option.bind_eq_some_iff.mp H
     obtain ⟨t314, A180, H⟩ := H
     replace H : (if t314 = true then ((hunk_Right.f kj1 ((rd_T33 t302 0).f0) ((rd_T33 t302 0).f1) ((rd_T33 t302 0).f2) ((rd_T33 t302 0).f3) ((rd_T33 t302 0).f4)).bind fun t316 => (if t316 = true then (if (t307.length : Int) = 1 then (if 0 < (t307.length : Int) then (if ((rd_T51 t307 0).f0) = 1 then ((hunk_Turn.f kj1 ((rd_T33 t302 0).f0) ((rd_T33 t302 0).f1) ((rd_T33 t302 0).f2) ((rd_T33 t302 0).f3) ((rd_T33 t302 0).f4)).bind fun bt319 => (if 1 < (bt319.2.2.2.2.length : Int) then (some ((rdOf ByteArray.empty bt319.2.2.2.2 1).toList == ([45, 120] : List UInt8))) else (none))) else (some false)) else (none)) else (some false)) else (some false))) else (some false)) = some r := H
     have A18 := Aside0.mk A180
     clear A180
     by_cases c19 : t314 = true
     ·subst c19
      have H1 : ((hunk_Right.f kj1 ((rd_T33 t302 0).f0) ((rd_T33 t302 0).f1) ((rd_T33 t302 0).f2) ((rd_T33 t302 0).f3) ((rd_T33 t302 0).f4)).bind fun t316 => (if t316 = true then (if (t307.length : Int) = 1 then (if 0 < (t307.length : Int) then (if ((rd_T51 t307 0).f0) = 1 then ((hunk_Turn.f kj1 ((rd_T33 t302 0).f0) ((rd_T33 t302 0).f1) ((rd_T33 t302 0).f2) ((rd_T33 t302 0).f3) ((rd_T33 t302 0).f4)).bind fun bt319 => (if 1 < (bt319.2.2.2.2.length : Int) then (some ((rdOf ByteArray.empty bt319.2.2.2.2 1).toList == ([45, 120] : List UInt8))) else (none))) else (some false)) else (none)) else (some false)) else (some false))) = some r := by rw [if_pos rfl] at H; exact H
      clear H
      have H := H1
      clear H1
      replace H := Option.bind_eq_some_iff.mp H
      obtain ⟨t316, A200, H⟩ := H
      replace H : (if t316 = true then (if (t307.length : Int) = 1 then (if 0 < (t307.length : Int) then (if ((rd_T51 t307 0).f0) = 1 then ((hunk_Turn.f kj1 ((rd_T33 t302 0).f0) ((rd_T33 t302 0).f1) ((rd_T33 t302 0).f2) ((rd_T33 t302 0).f3) ((rd_T33 t302 0).f4)).bind fun bt319 => (if 1 < (bt319.2.2.2.2.length : Int) then (some ((rdOf ByteArray.empty bt319.2.2.2.2 1).toList == ([45, 120] : List UInt8))) else (none))) else (some false)) else (none)) else (some false)) else (some false)) = some r := H
      have A20 := Aside0.mk A200
      clear A200
      by_cases c21 : t316 = true
      ·subst c21
       have H1 : (if (t307.length : Int) = 1 then (if 0 < (t307.length : Int) then (if ((rd_T51 t307 0).f0) = 1 then ((hunk_Turn.f kj1 ((rd_T33 t302 0).f0) ((rd_T33 t302 0).f1) ((rd_T33 t302 0).f2) ((rd_T33 t302 0).f3) ((rd_T33 t302 0).f4)).bind fun bt319 => (if 1 < (bt319.2.2.2.2.length : Int) then (some ((rdOf ByteArray.empty bt319.2.2.2.2 1).toList == ([45, 120] : List UInt8))) else (none))) else (some false)) else (none)) else (some false)) = some r := by rw [if_pos rfl] at H; exact H
       clear H
       have H := H1
       clear H1
       by_cases c22 : (t307.length : Int) = 1
       ·rw [if_pos c22] at H
        have c22b0 : ((t307.length : Int) == 1) = true := beq_iff_eq.mpr c22
        have c22b1 : ((t307.length : Int) != 1) = false := bne_eq_false_iff_eq.mpr c22
        clear c22
        by_cases c23 : 0 < (t307.length : Int)
        ·rw [if_pos c23] at H
         have c23b0 : decide (0 < (t307.length : Int)) = true := decide_eq_true c23
         have c23b1 : decide (0 < t307.length) = true := decide_eq_true (by omega)
         clear c23
         by_cases c24 : ((rd_T51 t307 0).f0) = 1
         ·rw [if_pos c24] at H
          have c24b0 : (((rd_T51 t307 0).f0) == 1) = true := beq_iff_eq.mpr c24
          have c24b1 : (((rd_T51 t307 0).f0) != 1) = false := bne_eq_false_iff_eq.mpr c24
          clear c24
          replace H := Option.bind_eq_some_iff.mp H
          obtain ⟨⟨t319, t320, t321, t322, t323⟩, A250, H⟩ := H
          replace H : (if 1 < (t323.length : Int) then (some ((rdOf ByteArray.empty t323 1).toList == ([45, 120] : List UInt8))) else (none)) = some r := H
          have A25 := Aside0.mk A250
          clear A250
          by_cases c26 : 1 < (t323.length : Int)
          ·rw [if_pos c26] at H
           have c26b0 : decide (1 < (t323.length : Int)) = true := decide_eq_true c26
           have c26b1 : decide (1 < t323.length) = true := decide_eq_true (by omega)
           clear c26
           obtain rfl := Option.some.inj H
           obtain ⟨Ao27, co27, eo27⟩ := Kd.N_slice HO_1.out
           subst eo27
           have p306 : 0 ≤ (0 : Int) := (by omega)
           have q306 : 0 < (t302.length : Int) := of_decide_eq_true (by first | (with_reducible assumption) | assumption)
           obtain ⟨ad306, A306_4, c306_4, e306, hx306_0, hx306_1, hx306_2, hx306_3, hx306_4, hl306_4, hi306_4⟩ := at_T33 (Kd.N_reads' HO_1.out).2.2 0 p306 q306
           cases e306
           obtain ⟨ce306, hce306, hMe306, hcc306⟩ := Kd.N_get HO_1.out z33 0 p306 (by first | exact q306 | exact of_decide_eq_true (by first | (with_reducible assumption) | assumption) | (have e_ := (Kd.N_reads' HO_1.out).1; omega))
           obtain ⟨ua306_4, uc306_4, rfl, ul306_4, ge306_4⟩ := k33_openF hMe306
           have hv306_4 := hcc306 4 _ rfl
           rw [add_field _ _ 4 (by omega)] at hv306_4
           replace hv306_4 := Option.some.inj (hv306_4.symm.trans hx306_4)
           injection hv306_4 with hva_ hvn_ hvc_
           rw [hva_] at ge306_4
           rw [hvc_] at ul306_4
           have HL306_4 := Aside0.mk (show Kd.V Kd.string 9 _ w.heap.size _ _ ((rd_T33 t302 0).f4) from Kd.V_mk ul306_4 ge306_4)
           clear hva_ hvn_ hvc_ ge306_4 ul306_4
           clear hcc306 hce306
           have qi306 : (0 < t302.length) = True := eq_true (by omega)
           (try rw [show ((0 : Int)).toNat = 0 from rfl] at hx306_0)
           (try rw [show 0 * 5 = 0 from rfl] at hx306_0)
           (try rw [Addr.add_zero'] at hx306_0)
           (try rw [show ((0 : Int)).toNat = 0 from rfl] at hx306_1)
           (try rw [show 0 * 5 = 0 from rfl] at hx306_1)
           (try rw [Addr.add_zero'] at hx306_1)
           (try rw [show ((0 : Int)).toNat = 0 from rfl] at hx306_2)
           (try rw [show 0 * 5 = 0 from rfl] at hx306_2)
           (try rw [Addr.add_zero'] at hx306_2)
           (try rw [show ((0 : Int)).toNat = 0 from rfl] at hx306_3)
           (try rw [show 0 * 5 = 0 from rfl] at hx306_3)
           (try rw [Addr.add_zero'] at hx306_3)
           (try rw [show ((0 : Int)).toNat = 0 from rfl] at hx306_4)
           (try rw [show 0 * 5 = 0 from rfl] at hx306_4)
           (try rw [Addr.add_zero'] at hx306_4)
           have HR306_4 := Aside0.mk hi306_4
           have HC306_4 := Aside0.mk hl306_4
           clear hi306_4 hl306_4
           replace p306 := eq_true p306
           replace q306 := eq_true q306
           go_wp2_with (first | ((with_reducible refine gate_callee (f := 21) rfl ?_); refine goesL_ (some 22) rfl rfl Try.func21 (by kernel_rfl) rfl #[.agg #[.int .i64 ((rd_T33 t302 0).f0), .int .i64 ((rd_T33 t302 0).f1), .int .i64 ((rd_T33 t302 0).f2), .int .i64 ((rd_T33 t302 0).f3), .slice A306_4 ((rd_T33 t302 0).f4).length c306_4]] rfl (by (try simp only [List.map_toArray, List.map_cons, List.map_nil]); first | done | rfl | (simp only [List.length_drop, List.length_take]; rfl)) ?_; (with_reducible refine (hunk_Edits.calls kj1 ((rd_T33 t302 0).f0) ((rd_T33 t302 0).f1) ((rd_T33 t302 0).f2) ((rd_T33 t302 0).f3) (fun k_ => (True ∧ some k_ ≠ (.slice (some ad306) t302.length co27 : Value).ownBlock)) _ _ ((rd_T33 t302 0).f4) t307 _ ?side1 A17.out).mono ?_); (case side1 => exact HL306_4.out); rintro e w28 ⟨v308, rfl, ho0, hb⟩; refine ⟨_, rfl, ?_⟩; have n0_ := Aside0.mk (Kd.N_elder' (by (with_reducible repeat (first | apply Kd.N_alloc | apply Kd.N_drewN | apply Kd.N_drew)); exact HO_1.out) (by first | exact Kd.N_base ho0 | exact Kd.S_base ho0) hb); have n1_ := Aside0.mk (Kd.V_elder' (by (with_reducible repeat (first | apply Kd.V_alloc | apply Kd.V_drewN | apply Kd.V_drew)); exact HL306_4.out) (by first | exact Kd.N_base ho0 | exact Kd.S_base ho0) hb); have n2_ := Aside0.mk (Kd.N_lower (by first | exact (Kd.N_mono (ok' := fun k_ => some k_ ≠ (.slice (some ad306) t302.length co27 : Value).ownBlock) ho0 (fun k_ hk_ => Or.elim hk_ (fun hs_ => hs_.2) (fun hn_ => (Kd.fresh' (Kd.N_lt (by (with_reducible repeat (first | apply Kd.N_alloc | apply Kd.N_drewN | apply Kd.N_drew)); exact HO_1.out)) k_ hn_)))) | exact (Kd.N_mono (ok' := fun k_ => some k_ ≠ (.slice (some ad306) t302.length co27 : Value).ownBlock) (Kd.S_N ho0) (fun k_ hk_ => (fun hn_ => (Kd.fresh' (Kd.N_lt (by (with_reducible repeat (first | apply Kd.N_alloc | apply Kd.N_drewN | apply Kd.N_drew)); exact HO_1.out)) k_ hn_)) hk_))) (below_size (by repeat (first | (with_reducible first | exact HB.out | apply below_alloc | apply pw_below_drewN | apply below_drew1) | exact HB.out)))); have n3_ := Aside0.mk (Kd.C_below (by repeat (first | (with_reducible exact HR306_4.out) | (with_reducible refine Kd.C_alloc ?_ _) | (with_reducible refine Kd.C_drewN ?_ _) | (with_reducible refine Kd.C_drew ?_) | exact HR306_4.out)) hb); have n4_ := Aside0.mk (below_step (by repeat (first | (with_reducible first | exact HB.out | apply below_alloc | apply pw_below_drewN | apply below_drew1) | exact HB.out)) hb); clear HO_1; clear HL306_4; clear HR306_4; clear HB; have HO_1 := n0_; have HL306_4 := n1_; have HO309 := n2_; have HR306_4 := n3_; have HB := n4_; clear n0_ n1_ n2_ n3_ n4_; (try clear hb); (try clear hb2); (try clear hk); (try clear hi); (try clear ho0); have p310 : 0 ≤ (0 : Int) := (by omega); have q310 : 0 < (t302.length : Int) := of_decide_eq_true (by first | (with_reducible assumption) | assumption); obtain ⟨ad310, A310_4, c310_4, e310, hx310_0, hx310_1, hx310_2, hx310_3, hx310_4, hl310_4, hi310_4⟩ := at_T33 (Kd.N_reads' HO_1.out).2.2 0 p310 q310; obtain rfl : ad306 = ad310 := (by injection e310); obtain ⟨ce310, hce310, hMe310, hcc310⟩ := Kd.N_get HO_1.out z33 0 p310 (by first | exact q310 | exact of_decide_eq_true (by first | (with_reducible assumption) | assumption) | (have e_ := (Kd.N_reads' HO_1.out).1; omega)); obtain ⟨ua310_4, uc310_4, rfl, ul310_4, ge310_4⟩ := k33_openF hMe310; have hv310_4 := hcc310 4 _ rfl; rw [add_field _ _ 4 (by omega)] at hv310_4; replace hv310_4 := Option.some.inj (hv310_4.symm.trans hx310_4); injection hv310_4 with hva_ hvn_ hvc_; rw [hva_] at ge310_4; rw [hvc_] at ul310_4; have HL310_4 := Aside0.mk (show Kd.V Kd.string 9 _ w.heap.size _ _ ((rd_T33 t302 0).f4) from Kd.V_mk ul310_4 ge310_4); clear hva_ hvn_ hvc_ ge310_4 ul310_4; clear hcc310 hce310; have qi310 : (0 < t302.length) = True := eq_true (by omega); (try rw [show ((0 : Int)).toNat = 0 from rfl] at hx310_0); (try rw [show 0 * 5 = 0 from rfl] at hx310_0); (try rw [Addr.add_zero'] at hx310_0); (try rw [show ((0 : Int)).toNat = 0 from rfl] at hx310_1); (try rw [show 0 * 5 = 0 from rfl] at hx310_1); (try rw [Addr.add_zero'] at hx310_1); (try rw [show ((0 : Int)).toNat = 0 from rfl] at hx310_2); (try rw [show 0 * 5 = 0 from rfl] at hx310_2); (try rw [Addr.add_zero'] at hx310_2); (try rw [show ((0 : Int)).toNat = 0 from rfl] at hx310_3); (try rw [show 0 * 5 = 0 from rfl] at hx310_3); (try rw [Addr.add_zero'] at hx310_3); (try rw [show ((0 : Int)).toNat = 0 from rfl] at hx310_4); (try rw [show 0 * 5 = 0 from rfl] at hx310_4); (try rw [Addr.add_zero'] at hx310_4); have HR310_4 := Aside0.mk hi310_4; have HC310_4 := Aside0.mk hl310_4; clear hi310_4 hl310_4; replace p310 := eq_true p310; replace q310 := eq_true q310) | ((with_reducible refine gate_dst (N := 26) rfl ?_); (try (refine gate_guard (by rfl) ?_; dsimp only)); refine Kd.R_lit Kd.string _ 9 ?hg (N := 26) ?hd (xs := ([(⟨#[32, 97]⟩ : ByteArray), (⟨#[45, 98]⟩ : ByteArray), (⟨#[43, 120]⟩ : ByteArray), (⟨#[32, 99]⟩ : ByteArray)] : List ByteArray)) (inner := [.string (⟨#[32, 97]⟩ : ByteArray), .string (⟨#[45, 98]⟩ : ByteArray), .string (⟨#[43, 120]⟩ : ByteArray), .string (⟨#[32, 99]⟩ : ByteArray)]) (ok := fun _ => True) (okp := fun _ => True) ?hr ?hp (fun _ hk => hk) trivial (Below.refl _ _) (Nat.le_refl _) (by simp) ?_; (case hd => rfl); (case hg => rfl); (case hr => first | (go_simp; done) | (go_simp; rfl)); (case hp => exact (Reps.one (show Kd.M Kd.string _ _ _ (⟨#[32, 97]⟩ : ByteArray) [.string (⟨#[32, 97]⟩ : ByteArray)] from rfl) (Reps.one (show Kd.M Kd.string _ _ _ (⟨#[45, 98]⟩ : ByteArray) [.string (⟨#[45, 98]⟩ : ByteArray)] from rfl) (Reps.one (show Kd.M Kd.string _ _ _ (⟨#[43, 120]⟩ : ByteArray) [.string (⟨#[43, 120]⟩ : ByteArray)] from rfl) (Reps.one (show Kd.M Kd.string _ _ _ (⟨#[32, 99]⟩ : ByteArray) [.string (⟨#[32, 99]⟩ : ByteArray)] from rfl) (Reps.none _ _)))))); intro v312 w29 ho30 hb hg_ hnew_; clear hg_ hnew_; (first | rw [← Ny311.out] at ho30 | (simp only [Int.reduceToNat] at ho30; rw [← Ny311.out] at ho30)); have n0_ := Aside0.mk (Kd.N_elder' (by (with_reducible repeat (first | apply Kd.N_alloc | apply Kd.N_drewN | apply Kd.N_drew)); exact HO_1.out) (Kd.R_base ho30) hb); have n1_ := Aside0.mk (Kd.V_elder' (by (with_reducible repeat (first | apply Kd.V_alloc | apply Kd.V_drewN | apply Kd.V_drew)); exact HL306_4.out) (Kd.R_base ho30) hb); have n2_ := Aside0.mk (Kd.N_elder' (by (with_reducible repeat (first | apply Kd.N_alloc | apply Kd.N_drewN | apply Kd.N_drew)); exact HO309.out) (Kd.R_base ho30) hb); have n3_ := Aside0.mk (Kd.V_elder' (by (with_reducible repeat (first | apply Kd.V_alloc | apply Kd.V_drewN | apply Kd.V_drew)); exact HL310_4.out) (Kd.R_base ho30) hb); have n4_ := Aside0.mk (Kd.R_lower ho30 (below_size (by repeat (first | (with_reducible first | exact HB.out | apply below_alloc | apply pw_below_drewN | apply below_drew1) | exact HB.out)))); have n5_ := Aside0.mk (Kd.C_below (by repeat (first | (with_reducible exact HR306_4.out) | (with_reducible refine Kd.C_alloc ?_ _) | (with_reducible refine Kd.C_drewN ?_ _) | (with_reducible refine Kd.C_drew ?_) | exact HR306_4.out)) hb); have n6_ := Aside0.mk (Kd.C_below (by repeat (first | (with_reducible exact HR310_4.out) | (with_reducible refine Kd.C_alloc ?_ _) | (with_reducible refine Kd.C_drewN ?_ _) | (with_reducible refine Kd.C_drew ?_) | exact HR310_4.out)) hb); have n7_ := Aside0.mk (below_step (by repeat (first | (with_reducible first | exact HB.out | apply below_alloc | apply pw_below_drewN | apply below_drew1) | exact HB.out)) hb); clear HO_1; clear HL306_4; clear HO309; clear HL310_4; clear HR306_4; clear HR310_4; clear HB; have HO_1 := n0_; have HL306_4 := n1_; have HO309 := n2_; have HL310_4 := n3_; have HO313 := n4_; have HR306_4 := n5_; have HR310_4 := n6_; have HB := n7_; clear n0_ n1_ n2_ n3_ n4_ n5_ n6_ n7_; clear hb ho30; obtain ⟨Ao31, co31, eo31⟩ := Kd.R_slice HO313.out; subst eo31) | ((with_reducible refine gate_callee (f := 17) rfl ?_); refine goesL_ (some 28) rfl rfl Try.func17 (by kernel_rfl) rfl #[.agg #[.int .i64 ((rd_T33 t302 0).f0), .int .i64 ((rd_T33 t302 0).f1), .int .i64 ((rd_T33 t302 0).f2), .int .i64 ((rd_T33 t302 0).f3), .slice A310_4 ((rd_T33 t302 0).f4).length c310_4], .agg #[.int .i64 0, .int .i64 3, .int .i64 0, .int .i64 3, .slice Ao31 y311.length co31]] rfl (by (try simp only [List.map_toArray, List.map_cons, List.map_nil]); first | done | rfl | (simp only [List.length_drop, List.length_take]; rfl)) ?_; (with_reducible refine (grapevineref05_One.calls kj1 ((rd_T33 t302 0).f0) ((rd_T33 t302 0).f1) ((rd_T33 t302 0).f2) ((rd_T33 t302 0).f3) _ _ ((rd_T33 t302 0).f4) 0 3 0 3 _ _ y311 true _ ?side1 ?side2 ?side3 ?side4 A18.out).mono ?_); (case side1 => repeat (first | exact (by repeat (first | (with_reducible exact HR310_4.out) | (with_reducible refine Kd.C_alloc ?_ _) | (with_reducible refine Kd.C_drewN ?_ _) | (with_reducible refine Kd.C_drew ?_) | exact HR310_4.out)) | (with_reducible refine Kd.C_alloc ?_ _) | (with_reducible refine Kd.C_drewN ?_ _) | (with_reducible refine Kd.C_drew ?_))); (case side2 => exact HC310_4.out); (case side3 => repeat (first | exact (Kd.R_reads' HO313.out).2.2 | (with_reducible refine Kd.C_alloc ?_ _) | (with_reducible refine Kd.C_drewN ?_ _) | (with_reducible refine Kd.C_drew ?_))); (case side4 => exact (Kd.R_reads' HO313.out).2.1); rintro e w32 ⟨rfl, hb⟩; refine ⟨_, rfl, ?_⟩; have n0_ := Aside0.mk (Kd.N_below (by (with_reducible repeat (first | apply Kd.N_alloc | apply Kd.N_drewN | apply Kd.N_drew)); exact HO_1.out) hb); have n1_ := Aside0.mk (Kd.V_below (by (with_reducible repeat (first | apply Kd.V_alloc | apply Kd.V_drewN | apply Kd.V_drew)); exact HL306_4.out) hb); have n2_ := Aside0.mk (Kd.N_below (by (with_reducible repeat (first | apply Kd.N_alloc | apply Kd.N_drewN | apply Kd.N_drew)); exact HO309.out) hb); have n3_ := Aside0.mk (Kd.V_below (by (with_reducible repeat (first | apply Kd.V_alloc | apply Kd.V_drewN | apply Kd.V_drew)); exact HL310_4.out) hb); have n4_ := Aside0.mk (Kd.R_below (by (with_reducible repeat (first | apply Kd.R_alloc | apply Kd.R_drewN | apply Kd.R_drew)); exact HO313.out) hb); have n5_ := Aside0.mk (Kd.C_below (by repeat (first | (with_reducible exact HR306_4.out) | (with_reducible refine Kd.C_alloc ?_ _) | (with_reducible refine Kd.C_drewN ?_ _) | (with_reducible refine Kd.C_drew ?_) | exact HR306_4.out)) hb); have n6_ := Aside0.mk (Kd.C_below (by repeat (first | (with_reducible exact HR310_4.out) | (with_reducible refine Kd.C_alloc ?_ _) | (with_reducible refine Kd.C_drewN ?_ _) | (with_reducible refine Kd.C_drew ?_) | exact HR310_4.out)) hb); have n7_ := Aside0.mk (below_step (by repeat (first | (with_reducible first | exact HB.out | apply below_alloc | apply pw_below_drewN | apply below_drew1) | exact HB.out)) hb); clear HO_1; clear HL306_4; clear HO309; clear HL310_4; clear HO313; clear HR306_4; clear HR310_4; clear HB; have HO_1 := n0_; have HL306_4 := n1_; have HO309 := n2_; have HL310_4 := n3_; have HO313 := n4_; have HR306_4 := n5_; have HR310_4 := n6_; have HB := n7_; clear n0_ n1_ n2_ n3_ n4_ n5_ n6_ n7_; (try clear hb); (try clear hb2); (try clear hk); (try clear hi); have p315 : 0 ≤ (0 : Int) := (by omega); have q315 : 0 < (t302.length : Int) := of_decide_eq_true (by first | (with_reducible assumption) | assumption); obtain ⟨ad315, A315_4, c315_4, e315, hx315_0, hx315_1, hx315_2, hx315_3, hx315_4, hl315_4, hi315_4⟩ := at_T33 (Kd.N_reads' HO_1.out).2.2 0 p315 q315; obtain rfl : ad306 = ad315 := (by injection e315); obtain ⟨ce315, hce315, hMe315, hcc315⟩ := Kd.N_get HO_1.out z33 0 p315 (by first | exact q315 | exact of_decide_eq_true (by first | (with_reducible assumption) | assumption) | (have e_ := (Kd.N_reads' HO_1.out).1; omega)); obtain ⟨ua315_4, uc315_4, rfl, ul315_4, ge315_4⟩ := k33_openF hMe315; have hv315_4 := hcc315 4 _ rfl; rw [add_field _ _ 4 (by omega)] at hv315_4; replace hv315_4 := Option.some.inj (hv315_4.symm.trans hx315_4); injection hv315_4 with hva_ hvn_ hvc_; rw [hva_] at ge315_4; rw [hvc_] at ul315_4; have HL315_4 := Aside0.mk (show Kd.V Kd.string 9 _ w.heap.size _ _ ((rd_T33 t302 0).f4) from Kd.V_mk ul315_4 ge315_4); clear hva_ hvn_ hvc_ ge315_4 ul315_4; clear hcc315 hce315; have qi315 : (0 < t302.length) = True := eq_true (by omega); (try rw [show ((0 : Int)).toNat = 0 from rfl] at hx315_0); (try rw [show 0 * 5 = 0 from rfl] at hx315_0); (try rw [Addr.add_zero'] at hx315_0); (try rw [show ((0 : Int)).toNat = 0 from rfl] at hx315_1); (try rw [show 0 * 5 = 0 from rfl] at hx315_1); (try rw [Addr.add_zero'] at hx315_1); (try rw [show ((0 : Int)).toNat = 0 from rfl] at hx315_2); (try rw [show 0 * 5 = 0 from rfl] at hx315_2); (try rw [Addr.add_zero'] at hx315_2); (try rw [show ((0 : Int)).toNat = 0 from rfl] at hx315_3); (try rw [show 0 * 5 = 0 from rfl] at hx315_3); (try rw [Addr.add_zero'] at hx315_3); (try rw [show ((0 : Int)).toNat = 0 from rfl] at hx315_4); (try rw [show 0 * 5 = 0 from rfl] at hx315_4); (try rw [Addr.add_zero'] at hx315_4); have HR315_4 := Aside0.mk hi315_4; have HC315_4 := Aside0.mk hl315_4; clear hi315_4 hl315_4; replace p315 := eq_true p315; replace q315 := eq_true q315) | (go_at_call 16; (with_reducible refine (hunk_Right.calls kj1 ((rd_T33 t302 0).f0) ((rd_T33 t302 0).f1) ((rd_T33 t302 0).f2) ((rd_T33 t302 0).f3) _ _ ((rd_T33 t302 0).f4) true _ ?side1 ?side2 A20.out).mono ?_); (case side1 => repeat (first | exact (by repeat (first | (with_reducible exact HR315_4.out) | (with_reducible refine Kd.C_alloc ?_ _) | (with_reducible refine Kd.C_drewN ?_ _) | (with_reducible refine Kd.C_drew ?_) | exact HR315_4.out)) | (with_reducible refine Kd.C_alloc ?_ _) | (with_reducible refine Kd.C_drewN ?_ _) | (with_reducible refine Kd.C_drew ?_))); (case side2 => exact HC315_4.out); rintro e w33 ⟨rfl, hb⟩; have n0_ := Aside0.mk (Kd.N_below (by (with_reducible repeat (first | apply Kd.N_alloc | apply Kd.N_drewN | apply Kd.N_drew)); exact HO_1.out) hb); have n1_ := Aside0.mk (Kd.V_below (by (with_reducible repeat (first | apply Kd.V_alloc | apply Kd.V_drewN | apply Kd.V_drew)); exact HL306_4.out) hb); have n2_ := Aside0.mk (Kd.N_below (by (with_reducible repeat (first | apply Kd.N_alloc | apply Kd.N_drewN | apply Kd.N_drew)); exact HO309.out) hb); have n3_ := Aside0.mk (Kd.V_below (by (with_reducible repeat (first | apply Kd.V_alloc | apply Kd.V_drewN | apply Kd.V_drew)); exact HL310_4.out) hb); have n4_ := Aside0.mk (Kd.R_below (by (with_reducible repeat (first | apply Kd.R_alloc | apply Kd.R_drewN | apply Kd.R_drew)); exact HO313.out) hb); have n5_ := Aside0.mk (Kd.V_below (by (with_reducible repeat (first | apply Kd.V_alloc | apply Kd.V_drewN | apply Kd.V_drew)); exact HL315_4.out) hb); have n6_ := Aside0.mk (Kd.C_below (by repeat (first | (with_reducible exact HR306_4.out) | (with_reducible refine Kd.C_alloc ?_ _) | (with_reducible refine Kd.C_drewN ?_ _) | (with_reducible refine Kd.C_drew ?_) | exact HR306_4.out)) hb); have n7_ := Aside0.mk (Kd.C_below (by repeat (first | (with_reducible exact HR310_4.out) | (with_reducible refine Kd.C_alloc ?_ _) | (with_reducible refine Kd.C_drewN ?_ _) | (with_reducible refine Kd.C_drew ?_) | exact HR310_4.out)) hb); have n8_ := Aside0.mk (Kd.C_below (by repeat (first | (with_reducible exact HR315_4.out) | (with_reducible refine Kd.C_alloc ?_ _) | (with_reducible refine Kd.C_drewN ?_ _) | (with_reducible refine Kd.C_drew ?_) | exact HR315_4.out)) hb); have n9_ := Aside0.mk (below_step (by repeat (first | (with_reducible first | exact HB.out | apply below_alloc | apply pw_below_drewN | apply below_drew1) | exact HB.out)) hb); clear HO_1; clear HL306_4; clear HO309; clear HL310_4; clear HO313; clear HL315_4; clear HR306_4; clear HR310_4; clear HR315_4; clear HB; have HO_1 := n0_; have HL306_4 := n1_; have HO309 := n2_; have HL310_4 := n3_; have HO313 := n4_; have HL315_4 := n5_; have HR306_4 := n6_; have HR310_4 := n7_; have HR315_4 := n8_; have HB := n9_; clear n0_ n1_ n2_ n3_ n4_ n5_ n6_ n7_ n8_ n9_; (try clear hb); (try clear hb2); (try clear hk); (try clear hi); obtain ⟨Ao34, co34, eo34⟩ := Kd.N_slice HO309.out; subst eo34; have p317 : 0 ≤ (0 : Int) := (by omega); have q317 : 0 < (t307.length : Int) := of_decide_eq_true (by first | (with_reducible assumption) | assumption); obtain ⟨ad317, A317_2, c317_2, e317, hx317_0, hx317_1, hx317_2, hl317_2, hi317_2⟩ := at_T51 (Kd.N_reads' HO309.out).2.2 0 p317 q317; cases e317; obtain ⟨ce317, hce317, hMe317, hcc317⟩ := Kd.N_get HO309.out z51 0 p317 (by first | exact q317 | exact of_decide_eq_true (by first | (with_reducible assumption) | assumption) | (have e_ := (Kd.N_reads' HO309.out).1; omega)); obtain ⟨ua317_2, uc317_2, rfl, ul317_2, ge317_2⟩ := k51_openF hMe317; have hv317_2 := hcc317 2 _ rfl; rw [add_field _ _ 2 (by omega)] at hv317_2; replace hv317_2 := Option.some.inj (hv317_2.symm.trans hx317_2); injection hv317_2 with hva_ hvn_ hvc_; rw [hva_] at ge317_2; rw [hvc_] at ul317_2; have HL317_2 := Aside0.mk (show Kd.V Kd.string 9 _ w.heap.size _ _ ((rd_T51 t307 0).f2) from Kd.V_mk ul317_2 ge317_2); clear hva_ hvn_ hvc_ ge317_2 ul317_2; clear hcc317 hce317; have qi317 : (0 < t307.length) = True := eq_true (by omega); (try rw [show ((0 : Int)).toNat = 0 from rfl] at hx317_0); (try rw [show 0 * 3 = 0 from rfl] at hx317_0); (try rw [Addr.add_zero'] at hx317_0); (try rw [show ((0 : Int)).toNat = 0 from rfl] at hx317_1); (try rw [show 0 * 3 = 0 from rfl] at hx317_1); (try rw [Addr.add_zero'] at hx317_1); (try rw [show ((0 : Int)).toNat = 0 from rfl] at hx317_2); (try rw [show 0 * 3 = 0 from rfl] at hx317_2); (try rw [Addr.add_zero'] at hx317_2); have HR317_2 := Aside0.mk hi317_2; have HC317_2 := Aside0.mk hl317_2; clear hi317_2 hl317_2; replace p317 := eq_true p317; replace q317 := eq_true q317; have p318 : 0 ≤ (0 : Int) := (by omega); have q318 : 0 < (t302.length : Int) := of_decide_eq_true (by first | (with_reducible assumption) | assumption); obtain ⟨ad318, A318_4, c318_4, e318, hx318_0, hx318_1, hx318_2, hx318_3, hx318_4, hl318_4, hi318_4⟩ := at_T33 (Kd.N_reads' HO_1.out).2.2 0 p318 q318; obtain rfl : ad306 = ad318 := (by injection e318); obtain ⟨ce318, hce318, hMe318, hcc318⟩ := Kd.N_get HO_1.out z33 0 p318 (by first | exact q318 | exact of_decide_eq_true (by first | (with_reducible assumption) | assumption) | (have e_ := (Kd.N_reads' HO_1.out).1; omega)); obtain ⟨ua318_4, uc318_4, rfl, ul318_4, ge318_4⟩ := k33_openF hMe318; have hv318_4 := hcc318 4 _ rfl; rw [add_field _ _ 4 (by omega)] at hv318_4; replace hv318_4 := Option.some.inj (hv318_4.symm.trans hx318_4); injection hv318_4 with hva_ hvn_ hvc_; rw [hva_] at ge318_4; rw [hvc_] at ul318_4; have HL318_4 := Aside0.mk (show Kd.V Kd.string 9 _ w.heap.size _ _ ((rd_T33 t302 0).f4) from Kd.V_mk ul318_4 ge318_4); clear hva_ hvn_ hvc_ ge318_4 ul318_4; clear hcc318 hce318; have qi318 : (0 < t302.length) = True := eq_true (by omega); (try rw [show ((0 : Int)).toNat = 0 from rfl] at hx318_0); (try rw [show 0 * 5 = 0 from rfl] at hx318_0); (try rw [Addr.add_zero'] at hx318_0); (try rw [show ((0 : Int)).toNat = 0 from rfl] at hx318_1); (try rw [show 0 * 5 = 0 from rfl] at hx318_1); (try rw [Addr.add_zero'] at hx318_1); (try rw [show ((0 : Int)).toNat = 0 from rfl] at hx318_2); (try rw [show 0 * 5 = 0 from rfl] at hx318_2); (try rw [Addr.add_zero'] at hx318_2); (try rw [show ((0 : Int)).toNat = 0 from rfl] at hx318_3); (try rw [show 0 * 5 = 0 from rfl] at hx318_3); (try rw [Addr.add_zero'] at hx318_3); (try rw [show ((0 : Int)).toNat = 0 from rfl] at hx318_4); (try rw [show 0 * 5 = 0 from rfl] at hx318_4); (try rw [Addr.add_zero'] at hx318_4); have HR318_4 := Aside0.mk hi318_4; have HC318_4 := Aside0.mk hl318_4; clear hi318_4 hl318_4; replace p318 := eq_true p318; replace q318 := eq_true q318) | (go_at_call 18; (with_reducible refine (hunk_Turn.calls kj1 ((rd_T33 t302 0).f0) ((rd_T33 t302 0).f1) ((rd_T33 t302 0).f2) ((rd_T33 t302 0).f3) (fun k_ => (((True ∧ some k_ ≠ (.slice (some ad317) t307.length co34 : Value).ownBlock) ∧ some k_ ≠ (.slice Ao31 y311.length co31 : Value).ownBlock) ∧ some k_ ≠ (.slice (some ad306) t302.length co27 : Value).ownBlock)) _ _ ((rd_T33 t302 0).f4) t319 t320 t321 t322 t323 _ ?side1 A25.out).mono ?_); (case side1 => exact HL318_4.out); rintro e w35 ⟨v324, rfl, ho0, hb⟩; have n0_ := Aside0.mk (Kd.N_elder' (by (with_reducible repeat (first | apply Kd.N_alloc | apply Kd.N_drewN | apply Kd.N_drew)); exact HO_1.out) (Kd.R_base ho0) hb); have n1_ := Aside0.mk (Kd.V_elder' (by (with_reducible repeat (first | apply Kd.V_alloc | apply Kd.V_drewN | apply Kd.V_drew)); exact HL306_4.out) (Kd.R_base ho0) hb); have n2_ := Aside0.mk (Kd.N_elder' (by (with_reducible repeat (first | apply Kd.N_alloc | apply Kd.N_drewN | apply Kd.N_drew)); exact HO309.out) (Kd.R_base ho0) hb); have n3_ := Aside0.mk (Kd.V_elder' (by (with_reducible repeat (first | apply Kd.V_alloc | apply Kd.V_drewN | apply Kd.V_drew)); exact HL310_4.out) (Kd.R_base ho0) hb); have n4_ := Aside0.mk (Kd.R_elder' (by (with_reducible repeat (first | apply Kd.R_alloc | apply Kd.R_drewN | apply Kd.R_drew)); exact HO313.out) (Kd.R_base ho0) hb); have n5_ := Aside0.mk (Kd.V_elder' (by (with_reducible repeat (first | apply Kd.V_alloc | apply Kd.V_drewN | apply Kd.V_drew)); exact HL315_4.out) (Kd.R_base ho0) hb); have n6_ := Aside0.mk (Kd.V_elder' (by (with_reducible repeat (first | apply Kd.V_alloc | apply Kd.V_drewN | apply Kd.V_drew)); exact HL317_2.out) (Kd.R_base ho0) hb); have n7_ := Aside0.mk (Kd.V_elder' (by (with_reducible repeat (first | apply Kd.V_alloc | apply Kd.V_drewN | apply Kd.V_drew)); exact HL318_4.out) (Kd.R_base ho0) hb); have n8_ := Aside0.mk (Kd.R_lower (Kd.R_new' (Kd.R_mono (ok' := fun k_ => True) ho0 (fun _ hk_ => trivial)) (Kd.R_lt (by (with_reducible repeat (first | apply Kd.R_alloc | apply Kd.R_drewN | apply Kd.R_drew)); exact HO313.out))) (below_size (by repeat (first | (with_reducible first | exact HB.out | apply below_alloc | apply pw_below_drewN | apply below_drew1) | exact HB.out)))); have n9_ := Aside0.mk (Kd.C_below (by repeat (first | (with_reducible exact HR306_4.out) | (with_reducible refine Kd.C_alloc ?_ _) | (with_reducible refine Kd.C_drewN ?_ _) | (with_reducible refine Kd.C_drew ?_) | exact HR306_4.out)) hb); have n10_ := Aside0.mk (Kd.C_below (by repeat (first | (with_reducible exact HR310_4.out) | (with_reducible refine Kd.C_alloc ?_ _) | (with_reducible refine Kd.C_drewN ?_ _) | (with_reducible refine Kd.C_drew ?_) | exact HR310_4.out)) hb); have n11_ := Aside0.mk (Kd.C_below (by repeat (first | (with_reducible exact HR315_4.out) | (with_reducible refine Kd.C_alloc ?_ _) | (with_reducible refine Kd.C_drewN ?_ _) | (with_reducible refine Kd.C_drew ?_) | exact HR315_4.out)) hb); have n12_ := Aside0.mk (Kd.C_below (by repeat (first | (with_reducible exact HR317_2.out) | (with_reducible refine Kd.C_alloc ?_ _) | (with_reducible refine Kd.C_drewN ?_ _) | (with_reducible refine Kd.C_drew ?_) | exact HR317_2.out)) hb); have n13_ := Aside0.mk (Kd.C_below (by repeat (first | (with_reducible exact HR318_4.out) | (with_reducible refine Kd.C_alloc ?_ _) | (with_reducible refine Kd.C_drewN ?_ _) | (with_reducible refine Kd.C_drew ?_) | exact HR318_4.out)) hb); have n14_ := Aside0.mk (below_step (by repeat (first | (with_reducible first | exact HB.out | apply below_alloc | apply pw_below_drewN | apply below_drew1) | exact HB.out)) hb); clear HO_1; clear HL306_4; clear HO309; clear HL310_4; clear HO313; clear HL315_4; clear HL317_2; clear HL318_4; clear HR306_4; clear HR310_4; clear HR315_4; clear HR317_2; clear HR318_4; clear HB; have HO_1 := n0_; have HL306_4 := n1_; have HO309 := n2_; have HL310_4 := n3_; have HO313 := n4_; have HL315_4 := n5_; have HL317_2 := n6_; have HL318_4 := n7_; have HO325 := n8_; have HR306_4 := n9_; have HR310_4 := n10_; have HR315_4 := n11_; have HR317_2 := n12_; have HR318_4 := n13_; have HB := n14_; clear n0_ n1_ n2_ n3_ n4_ n5_ n6_ n7_ n8_ n9_ n10_ n11_ n12_ n13_ n14_; (try clear hb); (try clear hb2); (try clear hk); (try clear hi); (try clear ho0); obtain ⟨Ao36, co36, eo36⟩ := Kd.R_slice HO325.out; subst eo36; have p326 : 0 ≤ (1 : Int) := (by omega); have q326 : 1 < (t323.length : Int) := of_decide_eq_true (by first | (with_reducible assumption) | assumption); obtain ⟨ad326, e326, hx326_0⟩ := Kd.at_string (Kd.R_reads' HO325.out).2.2 1 p326 q326; cases e326; (try simp only [show (1 : Int).toNat = 1 from rfl, Nat.reduceMul, Nat.reduceEqDiff, Go.Addr.add, ↓reduceIte] at hx326_0); have qi326 : (1 < t323.length) = True := eq_true (by omega); (try rw [show ((1 : Int)).toNat = 1 from rfl] at hx326_0); replace p326 := eq_true p326; replace q326 := eq_true q326))
           go_ret
           exact ⟨by first | rfl | (simp [errW_none, errW_some] <;> rfl) | (simp [*, errW_none, errW_some] <;> rfl), by repeat (first | (with_reducible first | exact HB.out | apply below_alloc | apply pw_below_drewN | apply below_drew1) | exact HB.out)⟩
          ·rw [if_neg c26] at H
           exact absurd H (by simp)
         ·rw [if_neg c24] at H
          have c24b0 : (((rd_T51 t307 0).f0) == 1) = false := beq_eq_false_iff_ne.mpr c24
          have c24b1 : (((rd_T51 t307 0).f0) != 1) = true := bne_iff_ne.mpr c24
          exact absurd (H.trans (congrArg some hrt_.out)) (by simp)
        ·rw [if_neg c23] at H
         exact absurd H (by simp)
       ·rw [if_neg c22] at H
        have c22b0 : ((t307.length : Int) == 1) = false := beq_eq_false_iff_ne.mpr c22
        have c22b1 : ((t307.length : Int) != 1) = true := bne_iff_ne.mpr c22
        exact absurd (H.trans (congrArg some hrt_.out)) (by simp)
      ·replace c21 := Bool.eq_false_iff.mpr c21
       subst c21
       have H1 : (some false) = some r := by rw [if_neg (show ¬ (false = true) by decide)] at H; exact H
       clear H
       have H := H1
       clear H1
       exact absurd (H.trans (congrArg some hrt_.out)) (by simp)
     ·replace c19 := Bool.eq_false_iff.mpr c19
      subst c19
      have H1 : (some false) = some r := by rw [if_neg (show ¬ (false = true) by decide)] at H; exact H
      clear H
      have H := H1
      clear H1
      exact absurd (H.trans (congrArg some hrt_.out)) (by simp)
    ·rw [if_neg c16] at H
     exact absurd H (by simp)

end Go.Proofs.Ytlabiajcohmjhaa.Pr
-- shrunk
