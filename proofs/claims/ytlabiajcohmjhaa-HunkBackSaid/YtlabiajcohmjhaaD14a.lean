-- written by a program of this session's (a turned copy of the kit's printer); Lean checks it
import Derived.Test.YtlabiajcohmjhaaD0
import Derived.Test.YtlabiajcohmjhaaGSlices
import Derived.Test.YtlabiajcohmjhaaD1a
namespace Go.Proofs.Ytlabiajcohmjhaa.Pr
open Go.RowKit Go.Proofs.YtlabiajcohmjhaaW.PrintWords Go.Proofs.YtlabiajcohmjhaaW.PrintLast Go.Proofs.YtlabiajcohmjhaaW.PrintMore
attribute [local go_sem] max2_int min2_int max_two min_two max_three min_three max_four min_four   -- for this text's walks alone
set_option linter.unusedVariables false
set_option linter.unusedSimpArgs false

def diff_Play.l0 : Nat → List ByteArray → List ByteArray → Int → List (S51) → Int → Int → Option (List ByteArray × Bool)
 | 0, _, _, _, _, _, _ => none
 | k + 1, x0, x6, x7, x15, x16, x17 => if x17 < x16 then (if 0 ≤ x17 then (if x17 < (x15.length : Int) then (if 0 ≤ x7 then (if x7 ≤ ((rd_T51 x15 x17).f0) then (if ((rd_T51 x15 x17).f0) ≤ (x0.length : Int) then ((slices_Concat_string_string.f (([x6, ((x0.take (((rd_T51 x15 x17).f0) : Int).toNat).drop (x7 : Int).toNat), (rd_T51 x15 x17).f2] : List (List ByteArray)))).bind fun t474 => (diff_Play.l0 k x0 t474 (wrap64 (((rd_T51 x15 x17).f0) + ((rd_T51 x15 x17).f1))) x15 x16 (wrap64 (x17 + 1)))) else (none)) else (none)) else (none)) else (none)) else (none)) else (if 0 ≤ x7 then (if x7 ≤ (x0.length : Int) then ((slices_Concat_string_string.f (([x6, (x0.drop (x7 : Int).toNat)] : List (List ByteArray)))).bind fun t485 => (some (t485, true))) else (none)) else (none))
def diff_Play.f (k : Nat) (l0 : List ByteArray) (l1 : List (S51)) : Option (List ByteArray × Bool) := (diff_Right.f k (l0.length : Int) l1).bind fun t463 => (if t463 = true then (diff_Play.l0 k l0 ([] : List ByteArray) 0 l1 (l1.length : Int) 0) else (some (([] : List ByteArray), false)))
theorem diff_Play.mono_l : ∀ k, (∀ y0 y1 y2 y3 y4 y5, LeO (diff_Play.l0 k y0 y1 y2 y3 y4 y5) (diff_Play.l0 (k + 1) y0 y1 y2 y3 y4 y5))
 | 0 => fun _ _ _ _ _ _ r h => by simp [diff_Play.l0] at h
 | k + 1 => by
  have ih0 := diff_Play.mono_l k
  ·intro y0 y1 y2 y3 y4 y5
   unfold diff_Play.l0
   repeat' first
   | (with_reducible exact ih0 _ _ _ _ _ _)
   | (with_reducible exact diff_Right.mono _ _ _)
   | (with_reducible exact LeO.refl _)
   | (with_reducible exact LeO.none _)
   | (with_reducible refine LeO.ite ?_ ?_)
   | (with_reducible refine LeO.bind ?_ (fun _ => ?_))
   | exact ih0 _ _ _ _ _ _
   | exact diff_Right.mono _ _ _
   | exact LeO.none _
   | refine LeO.ite ?_ ?_
   | refine LeO.bind ?_ (fun _ => ?_)
theorem diff_Play.mono : ∀ a0 a1 k, LeO (diff_Play.f k a0 a1) (diff_Play.f (k + 1) a0 a1) := by
 intro a0 a1 k
 have ih0 := diff_Play.mono_l k
 unfold diff_Play.f
 repeat' first
   | (with_reducible exact ih0 _ _ _ _ _ _)
   | (with_reducible exact diff_Right.mono _ _ _)
   | (with_reducible exact LeO.refl _)
   | (with_reducible exact LeO.none _)
   | (with_reducible refine LeO.ite ?_ ?_)
   | (with_reducible refine LeO.bind ?_ (fun _ => ?_))
   | exact ih0 _ _ _ _ _ _
   | exact diff_Right.mono _ _ _
   | exact LeO.none _
   | refine LeO.ite ?_ ?_
   | refine LeO.bind ?_ (fun _ => ?_)
def diff_Play.T8 : Bool × List (List Nat × List Nat) := (true, [([], []), ([], []), ([], []), ([], []), ([3], [3]), ([1, 2, 4], [1, 2, 4]), ([], []), ([6], [6]), ([0, 5, 7], [0, 5, 7]), ([8], [8]), ([9, 9, 0, 1, 2, 3, 4, 5, 6, 7, 8, 9], [0, 9])])
def diff_Play.B8 : List Nat := [0, 0, 0, 0, 8, 30, 0, 64, 255, 511, 1023]
theorem diff_Play.tab8 : rtab .any (opsOf Try.f25 8) = diff_Play.T8 := by kernel_rfl
theorem diff_Play.bits8 : waitsOk diff_Play.T8.2 diff_Play.B8 = true := by kernel_rfl
set_option maxHeartbeats 8000000 in
set_option maxRecDepth 100000 in
theorem diff_Play.calls (k : Nat) (P0_ : Nat → Prop) (A0 : Option Addr) (c0 : Nat) (l0 : List ByteArray) (P1_ : Nat → Prop) (A1 : Option Addr) (c1 : Nat) (l1 : List (S51)) (r1 : List ByteArray) (r2 : Bool) (w : World) (hs0 : Kd.V Kd.string 9 w w.heap.size (fun k_ => P0_ k_) (.slice A0 l0.length c0) l0) (hs1 : Kd.V k51 51 w w.heap.size (fun k_ => P1_ k_) (.slice A1 l1.length c1) l1) (h : diff_Play.f k l0 l1 = some (r1, r2)) :
  Calls Try.prog 25 #[.slice A0 l0.length c0, .slice A1 l1.length c1] w fun e w' => ∃ v0_ : Value, e = .returned (.tuple #[v0_, .bool r2]) ∧ Kd.R Kd.string 9 w' w.heap.size (fun k_ => (w.heap.size ≤ k_)) v0_ r1 ∧ Below w.heap.size w w' := by
 have hu51 := Try.underlying51
 have HO0 := Aside0.mk (show Kd.V Kd.string 9 w w.heap.size (fun k_ => ((P0_ k_ ∨ P1_ k_) ∨ w.heap.size ≤ k_)) (.slice A0 l0.length c0) l0 from Kd.V_mono hs0 (fun k_ hk => .inl (.inl hk)))
 have HO1 := Aside0.mk (show Kd.V k51 51 w w.heap.size (fun k_ => ((P0_ k_ ∨ P1_ k_) ∨ w.heap.size ≤ k_)) (.slice A1 l1.length c1) l1 from Kd.V_mono hs1 (fun k_ hk => .inl (.inr hk)))
 have HB := Aside0.mk (Below.refl w.heap.size w)
 have H : ((diff_Right.f k (l0.length : Int) l1).bind fun t463 => (if t463 = true then (diff_Play.l0 k l0 ([] : List ByteArray) 0 l1 (l1.length : Int) 0) else (some (([] : List ByteArray), false)))) = some (r1, r2) := h
 clear h
 replace H := Option.bind_eq_some_iff.mp H
 obtain ⟨t463, A30, H⟩ := H
 replace H : (if t463 = true then (diff_Play.l0 k l0 ([] : List ByteArray) 0 l1 (l1.length : Int) 0) else (some (([] : List ByteArray), false))) = some (r1, r2) := H
 have A3 := Aside0.mk A30
 clear A30
 by_cases c4 : t463 = true
 ·subst c4
  have H1 : (diff_Play.l0 k l0 ([] : List ByteArray) 0 l1 (l1.length : Int) 0) = some (r1, r2) := by rw [if_pos rfl] at H; exact H
  clear H
  have H := H1
  clear H1
  have H' := Aside0.mk H
  clear H
  go_enter Try.func25, Try.ntmps25
  go_wp2_with (first | ((with_reducible refine gate_callee (f := 28) rfl ?_); refine goesL_ (some 13) rfl rfl Try.func28 (by kernel_rfl) rfl #[.int .i64 (l0.length : Int), .slice A1 l1.length c1] rfl (by (try simp only [List.map_toArray, List.map_cons, List.map_nil]); first | done | rfl | (simp only [List.length_drop, List.length_take]; rfl)) ?_; (with_reducible refine (diff_Right.calls k (l0.length : Int) _ _ l1 true _ ?side1 ?side2 A3.out).mono ?_); (case side1 => repeat (first | exact (Kd.V_reads' HO1.out).2.2 | (with_reducible refine Kd.C_alloc ?_ _) | (with_reducible refine Kd.C_drewN ?_ _) | (with_reducible refine Kd.C_drew ?_))); (case side2 => exact (Kd.V_reads' HO1.out).2.1); rintro e w5 ⟨rfl, hb⟩; refine ⟨_, rfl, ?_⟩; have n0_ := Aside0.mk (Kd.V_below (by (with_reducible repeat (first | apply Kd.V_alloc | apply Kd.V_drewN | apply Kd.V_drew)); exact HO0.out) hb); have n1_ := Aside0.mk (Kd.V_below (by (with_reducible repeat (first | apply Kd.V_alloc | apply Kd.V_drewN | apply Kd.V_drew)); exact HO1.out) hb); have n2_ := Aside0.mk (below_step (by repeat (first | (with_reducible first | exact HB.out | apply below_alloc | apply pw_below_drewN | apply below_drew1) | exact HB.out)) hb); clear HO0; clear HO1; clear HB; have HO0 := n0_; have HO1 := n1_; have HB := n2_; clear n0_ n1_ n2_; (try clear hb); (try clear hb2); (try clear hk); (try clear hi)))
  go_loopg [6, 7, 17] k (fun kq v6 v7 v17 w' => ∃ (x6_1 : List ByteArray) (x7_1 : Int) (x17_1 : Int), v7 = .int .i64 x7_1 ∧ v17 = .int .i64 x17_1 ∧ Aside0 (diff_Play.l0 kq l0 x6_1 x7_1 l1 (l1.length : Int) x17_1 = some (r1, r2)) ∧ Aside0 (kq ≤ k) ∧ Aside0 (Kd.V Kd.string 9 w' w.heap.size (fun k_ => ((P0_ k_ ∨ P1_ k_) ∨ w.heap.size ≤ k_) ∧ some k_ ≠ (v6 : Value).ownBlock) (.slice A0 l0.length c0) l0) ∧ Aside0 (Kd.R Kd.string 9 w' w.heap.size (fun k_ => (w.heap.size ≤ k_)) v6 x6_1) ∧ Aside0 (Kd.V k51 51 w' w.heap.size (fun k_ => ((P0_ k_ ∨ P1_ k_) ∨ w.heap.size ≤ k_) ∧ some k_ ≠ (v6 : Value).ownBlock) (.slice A1 l1.length c1) l1) ∧ Aside0 (Below w.heap.size w w'))
  case atStart => exact ⟨(([] : List ByteArray)), (0), (0), (by first | rfl | (simp; done) | (simp [*]; done)), (by first | rfl | (simp; done) | (simp [*]; done)), H', ⟨Nat.le_refl _⟩, ⟨by (with_reducible repeat (first | apply Kd.V_alloc | apply Kd.V_drewN | apply Kd.V_drew)); exact Kd.V_mono HO0.out (fun _ hk => ⟨hk, (by simp [Value.ownBlock])⟩)⟩, ⟨by first | exact Kd.R_nil _ _ _ _ _ | exact Kd.N_nil _ _ _ _ _ | exact Kd.V_nil _ _ _ _ _ | exact Kd.Q_nil _ _ _ _ _ | exact Kd.S_nil _ _ _ _ _⟩, ⟨by (with_reducible repeat (first | apply Kd.V_alloc | apply Kd.V_drewN | apply Kd.V_drew)); exact Kd.V_mono HO1.out (fun _ hk => ⟨hk, (by simp [Value.ownBlock])⟩)⟩, ⟨by repeat (first | (with_reducible first | exact HB.out | apply below_alloc | apply pw_below_drewN | apply below_drew1) | exact HB.out)⟩⟩
  case round =>
   clear H'
   try clear c1
   try clear c2
   try clear p2
   try clear c4
   obtain ⟨x6_1, x7_1, x17_1, rfl, rfl, HA, HK1, HO_0, HO_6, HO_15, HB⟩ := hrel
   cases gk with
   | zero => exact absurd HA.out (by simp [diff_Play.l0])
   | succ k1 =>
    have H := HA.out
    clear HA
    simp only [diff_Play.l0] at H
    by_cases c6 : x17_1 < (l1.length : Int)
    ·rw [if_pos c6] at H
     have c6b0 : decide (x17_1 < (l1.length : Int)) = true := decide_eq_true c6
     clear c6
     by_cases c7 : 0 ≤ x17_1
     ·rw [if_pos c7] at H
      have c7b0 : decide (0 ≤ x17_1) = true := decide_eq_true c7
      clear c7
      by_cases c8 : x17_1 < (l1.length : Int)
      ·rw [if_pos c8] at H
       have c8b0 : decide (x17_1 < (l1.length : Int)) = true := decide_eq_true c8
       clear c8
       by_cases c9 : 0 ≤ x7_1
       ·rw [if_pos c9] at H
        have c9b0 := eq_true c9
        have c9b1 : decide (0 ≤ x7_1) = true := decide_eq_true c9
        clear c9
        by_cases c10 : x7_1 ≤ ((rd_T51 l1 x17_1).f0)
        ·rw [if_pos c10] at H
         have c10b0 := eq_true c10
         have c10b1 : decide (x7_1 ≤ ((rd_T51 l1 x17_1).f0)) = true := decide_eq_true c10
         clear c10
         by_cases c11 : ((rd_T51 l1 x17_1).f0) ≤ (l0.length : Int)
         ·rw [if_pos c11] at H
          have c11b0 := eq_true c11
          have c11b1 : decide (((rd_T51 l1 x17_1).f0) ≤ (l0.length : Int)) = true := decide_eq_true c11
          clear c11
          obtain ⟨y466, hy466⟩ : ∃ y_ : List ByteArray, y_ = ((l0.take (((rd_T51 l1 x17_1).f0) : Int).toNat).drop (x7_1 : Int).toNat) := ⟨_, rfl⟩
          replace H : ((slices_Concat_string_string.f (([x6_1, y466, (rd_T51 l1 x17_1).f2] : List (List ByteArray)))).bind fun t474 => (diff_Play.l0 k1 l0 t474 (wrap64 (((rd_T51 l1 x17_1).f0) + ((rd_T51 l1 x17_1).f1))) l1 (l1.length : Int) (wrap64 (x17_1 + 1)))) = some (r1, r2) := by first | (rw [hy466]; with_reducible exact H) | (have H2_ := (Option.bind_some _ _).symm.trans H; rw [hy466]; with_reducible exact H2_) | (have H2_ := (Option.bind_some _ _).symm.trans H; with_reducible exact H2_) | with_reducible exact H | (rw [hy466]; exact H) | exact H
          have Ny466 := Aside0.mk hy466
          clear hy466
          obtain ⟨y471, hy471⟩ : ∃ y_ : List (List ByteArray), y_ = (([x6_1, y466, (rd_T51 l1 x17_1).f2] : List (List ByteArray))) := ⟨_, rfl⟩
          replace H : ((slices_Concat_string_string.f y471).bind fun t474 => (diff_Play.l0 k1 l0 t474 (wrap64 (((rd_T51 l1 x17_1).f0) + ((rd_T51 l1 x17_1).f1))) l1 (l1.length : Int) (wrap64 (x17_1 + 1)))) = some (r1, r2) := by first | (rw [hy471]; with_reducible exact H) | (have H2_ := (Option.bind_some _ _).symm.trans H; rw [hy471]; with_reducible exact H2_) | (have H2_ := (Option.bind_some _ _).symm.trans H; with_reducible exact H2_) | with_reducible exact H | (rw [hy471]; exact H) | exact H
          have Ny471 := Aside0.mk hy471
          clear hy471
          replace H := Option.bind_eq_some_iff.mp H
          obtain ⟨t474, A120, H⟩ := H
          replace H : (diff_Play.l0 k1 l0 t474 (wrap64 (((rd_T51 l1 x17_1).f0) + ((rd_T51 l1 x17_1).f1))) l1 (l1.length : Int) (wrap64 (x17_1 + 1))) = some (r1, r2) := H
          have A12 := Aside0.mk A120
          clear A120
          have H' := Aside0.mk H
          clear H
          have p464 : 0 ≤ (x17_1 : Int) := of_decide_eq_true (by first | (with_reducible assumption) | assumption)
          have q464 : x17_1 < (l1.length : Int) := of_decide_eq_true (by first | (with_reducible assumption) | assumption)
          obtain ⟨ad464, A464_2, c464_2, e464, hx464_0, hx464_1, hx464_2, hl464_2, hi464_2⟩ := at_T51 (Kd.V_reads' HO_15.out).2.2 x17_1 p464 q464
          cases e464
          obtain ⟨ce464, hce464, hMe464, hcc464⟩ := Kd.V_get HO_15.out z51 x17_1 p464 (by first | exact q464 | exact of_decide_eq_true (by first | (with_reducible assumption) | assumption) | (have e_ := (Kd.V_reads' HO_15.out).1; omega))
          obtain ⟨ua464_2, uc464_2, rfl, ul464_2, ge464_2⟩ := k51_openF hMe464
          have hv464_2 := hcc464 2 _ rfl
          rw [add_field _ _ 2 (by omega)] at hv464_2
          replace hv464_2 := Option.some.inj (hv464_2.symm.trans hx464_2)
          injection hv464_2 with hva_ hvn_ hvc_
          rw [hva_] at ge464_2
          rw [hvc_] at ul464_2
          have HL464_2 := Aside0.mk (show Kd.V Kd.string 9 _ w.heap.size _ _ ((rd_T51 l1 x17_1).f2) from Kd.V_mk ul464_2 ge464_2)
          clear hva_ hvn_ hvc_ ge464_2 ul464_2
          clear hcc464 hce464
          have HR464_2 := Aside0.mk hi464_2
          have HC464_2 := Aside0.mk hl464_2
          clear hi464_2 hl464_2
          replace p464 := eq_true p464
          replace q464 := eq_true q464
          try go_wp2_with (first | ((with_reducible refine gate_dst (N := 9) rfl ?_); refine box_event ?hg (N := 9) ?hd (cs := #[.int .i64 0, .int .i64 0, .slice none 0 0]) (t := 51) ?hr ?_; (case hd => rfl); (case hg => rfl); (case hr => first | (go_simp; done) | (go_simp; rfl)); intro gb465 hg w13 hbox hb; have n0_ := Aside0.mk (Kd.V_below (Kd.V_elderB (by (with_reducible repeat (first | apply Kd.V_alloc | apply Kd.V_drewN | apply Kd.V_drew)); exact HO_0.out) gb465 (Nat.le_of_eq hg.symm)) hb); have n1_ := Aside0.mk (Kd.R_below (by (with_reducible repeat (first | apply Kd.R_alloc | apply Kd.R_drewN | apply Kd.R_drew)); exact HO_6.out) hb); have n2_ := Aside0.mk (Kd.V_below (Kd.V_elderB (by (with_reducible repeat (first | apply Kd.V_alloc | apply Kd.V_drewN | apply Kd.V_drew)); exact HO_15.out) gb465 (Nat.le_of_eq hg.symm)) hb); have n3_ := Aside0.mk (Kd.V_below (Kd.V_elderB (by (with_reducible repeat (first | apply Kd.V_alloc | apply Kd.V_drewN | apply Kd.V_drew)); exact HL464_2.out) gb465 (Nat.le_of_eq hg.symm)) hb); have n4_ := Aside0.mk (Kd.C_below (by repeat (first | (with_reducible exact HR464_2.out) | (with_reducible refine Kd.C_alloc ?_ _) | (with_reducible refine Kd.C_drewN ?_ _) | (with_reducible refine Kd.C_drew ?_) | exact HR464_2.out)) hb); have n5_ := Aside0.mk (below_step (by repeat (first | (with_reducible first | exact HB.out | apply below_alloc | apply pw_below_drewN | apply below_drew1) | exact HB.out)) hb); have n6_ := Aside0.mk (hbox); have n7_ := Aside0.mk ((by rw [hg]; exact (below_size (by repeat (first | (with_reducible first | exact HB.out | apply below_alloc | apply pw_below_drewN | apply below_drew1) | exact HB.out))) : w.heap.size ≤ gb465)); have n8_ := Aside0.mk ((by rw [hg]; exact (below_size (by repeat (first | (with_reducible first | exact HB.out | apply below_alloc | apply pw_below_drewN | apply below_drew1) | exact HB.out))) : w.heap.size ≤ gb465)); clear HO_0; clear HO_6; clear HO_15; clear HL464_2; clear HR464_2; clear HB; have HO_0 := n0_; have HO_6 := n1_; have HO_15 := n2_; have HL464_2 := n3_; have HR464_2 := n4_; have HB := n5_; have BK465 := n6_; have GW465 := n7_; have GE465 := n8_; clear n0_ n1_ n2_ n3_ n4_ n5_ n6_ n7_ n8_; clear hb hbox hg; have hcz14_0 : w13.cell? ⟨gb465, 0, none⟩ = some (.int .i64 0) := (blk_cell BK465.out 0).trans rfl; have hcz14_1 : w13.cell? ⟨gb465, 1, none⟩ = some (.int .i64 0) := (blk_cell BK465.out 1).trans rfl; have hcz14_2 : w13.cell? ⟨gb465, 2, none⟩ = some (.slice none 0 0) := (blk_cell BK465.out 2).trans rfl; have hfz14_0 := blk_frozen BK465.out 0; have hfz14_1 := blk_frozen BK465.out 1; have hfz14_2 := blk_frozen BK465.out 2))
          have n0_ : Aside0 (Kd.V Kd.string 9 (((w13.setCell ⟨gb465, 0, none⟩ (.int .i64 ((rd_T51 l1 x17_1).f0))).setCell ⟨gb465, 1, none⟩ (.int .i64 ((rd_T51 l1 x17_1).f1))).setCell ⟨gb465, 2, none⟩ (.slice A464_2 ((rd_T51 l1 x17_1).f2).length c464_2)) w.heap.size (fun k_ => ((P0_ k_ ∨ P1_ k_) ∨ w.heap.size ≤ k_) ∧ some k_ ≠ (u6 : Value).ownBlock ∧ k_ ≠ gb465) (.slice A0 l0.length c0) l0) := ⟨by (with_reducible repeat (first | apply Kd.V_alloc | apply Kd.V_drewN | apply Kd.V_drew)); exact Kd.V_mono (Kd.V_far (p := ⟨gb465, 2, none⟩) (Kd.V_far (p := ⟨gb465, 1, none⟩) (Kd.V_far (p := ⟨gb465, 0, none⟩) (Kd.V_mono HO_0.out (fun k_ hk => (⟨hk, hk.2⟩ : _ ∧ k_ ≠ gb465))) (fun _ hk => hk.2) (.int .i64 ((rd_T51 l1 x17_1).f0))) (fun _ hk => hk.2) (.int .i64 ((rd_T51 l1 x17_1).f1))) (fun _ hk => hk.2) (.slice A464_2 ((rd_T51 l1 x17_1).f2).length c464_2)) (fun _ hk => ⟨hk.1.1.1, ⟨hk.1.1.2, hk.1.2⟩⟩)⟩
          have n1_ : Aside0 (Kd.R Kd.string 9 (((w13.setCell ⟨gb465, 0, none⟩ (.int .i64 ((rd_T51 l1 x17_1).f0))).setCell ⟨gb465, 1, none⟩ (.int .i64 ((rd_T51 l1 x17_1).f1))).setCell ⟨gb465, 2, none⟩ (.slice A464_2 ((rd_T51 l1 x17_1).f2).length c464_2)) w.heap.size (fun k_ => (w.heap.size ≤ k_)) u6 x6_1) := ⟨by (with_reducible repeat (first | apply Kd.R_alloc | apply Kd.R_drewN | apply Kd.R_drew)); exact Kd.R_mono (Kd.R_far (p := ⟨gb465, 2, none⟩) (Kd.R_far (p := ⟨gb465, 1, none⟩) (Kd.R_far (p := ⟨gb465, 0, none⟩) (Kd.R_types HO_6.out BK465.out (by decide)) (fun _ hk => hk.2) (.int .i64 ((rd_T51 l1 x17_1).f0))) (fun _ hk => hk.2) (.int .i64 ((rd_T51 l1 x17_1).f1))) (fun _ hk => hk.2) (.slice A464_2 ((rd_T51 l1 x17_1).f2).length c464_2)) (fun _ hk => hk.1)⟩
          have n2_ : Aside0 (Kd.V k51 51 (((w13.setCell ⟨gb465, 0, none⟩ (.int .i64 ((rd_T51 l1 x17_1).f0))).setCell ⟨gb465, 1, none⟩ (.int .i64 ((rd_T51 l1 x17_1).f1))).setCell ⟨gb465, 2, none⟩ (.slice A464_2 ((rd_T51 l1 x17_1).f2).length c464_2)) w.heap.size (fun k_ => ((P0_ k_ ∨ P1_ k_) ∨ w.heap.size ≤ k_) ∧ some k_ ≠ (u6 : Value).ownBlock ∧ k_ ≠ gb465) (.slice (some ad464) l1.length c1) l1) := ⟨by (with_reducible repeat (first | apply Kd.V_alloc | apply Kd.V_drewN | apply Kd.V_drew)); exact Kd.V_mono (Kd.V_far (p := ⟨gb465, 2, none⟩) (Kd.V_far (p := ⟨gb465, 1, none⟩) (Kd.V_far (p := ⟨gb465, 0, none⟩) (Kd.V_mono HO_15.out (fun k_ hk => (⟨hk, hk.2⟩ : _ ∧ k_ ≠ gb465))) (fun _ hk => hk.2) (.int .i64 ((rd_T51 l1 x17_1).f0))) (fun _ hk => hk.2) (.int .i64 ((rd_T51 l1 x17_1).f1))) (fun _ hk => hk.2) (.slice A464_2 ((rd_T51 l1 x17_1).f2).length c464_2)) (fun _ hk => ⟨hk.1.1.1, ⟨hk.1.1.2, hk.1.2⟩⟩)⟩
          have n3_ : Aside0 (Kd.V Kd.string 9 (((w13.setCell ⟨gb465, 0, none⟩ (.int .i64 ((rd_T51 l1 x17_1).f0))).setCell ⟨gb465, 1, none⟩ (.int .i64 ((rd_T51 l1 x17_1).f1))).setCell ⟨gb465, 2, none⟩ (.slice A464_2 ((rd_T51 l1 x17_1).f2).length c464_2)) w.heap.size (fun k_ => ((P0_ k_ ∨ P1_ k_) ∨ w.heap.size ≤ k_) ∧ some k_ ≠ (u6 : Value).ownBlock ∧ k_ ≠ gb465) (.slice A464_2 ((rd_T51 l1 x17_1).f2).length c464_2) ((rd_T51 l1 x17_1).f2)) := ⟨by (with_reducible repeat (first | apply Kd.V_alloc | apply Kd.V_drewN | apply Kd.V_drew)); exact Kd.V_mono (Kd.V_far (p := ⟨gb465, 2, none⟩) (Kd.V_far (p := ⟨gb465, 1, none⟩) (Kd.V_far (p := ⟨gb465, 0, none⟩) (Kd.V_mono HL464_2.out (fun k_ hk => (⟨hk, hk.2⟩ : _ ∧ k_ ≠ gb465))) (fun _ hk => hk.2) (.int .i64 ((rd_T51 l1 x17_1).f0))) (fun _ hk => hk.2) (.int .i64 ((rd_T51 l1 x17_1).f1))) (fun _ hk => hk.2) (.slice A464_2 ((rd_T51 l1 x17_1).f2).length c464_2)) (fun _ hk => ⟨hk.1.1.1, ⟨hk.1.1.2, hk.1.2⟩⟩)⟩
          have n4_ : Aside0 ((((w13.setCell ⟨gb465, 0, none⟩ (.int .i64 ((rd_T51 l1 x17_1).f0))).setCell ⟨gb465, 1, none⟩ (.int .i64 ((rd_T51 l1 x17_1).f1))).setCell ⟨gb465, 2, none⟩ (.slice A464_2 ((rd_T51 l1 x17_1).f2).length c464_2)).heap[gb465]? = some (.cells #[.int .i64 ((rd_T51 l1 x17_1).f0), .int .i64 ((rd_T51 l1 x17_1).f1), .slice A464_2 ((rd_T51 l1 x17_1).f2).length c464_2] 51 (0, 0))) := ⟨by (with_reducible repeat (first | refine blk_drewN ?_ _ | refine blk_drew ?_ | refine blk_alloc ?_ _)); refine blk_put (cs := #[.int .i64 ((rd_T51 l1 x17_1).f0), .int .i64 ((rd_T51 l1 x17_1).f1), .slice none 0 0]) ?_ 2 _ rfl; (with_reducible repeat (first | refine blk_drewN ?_ _ | refine blk_drew ?_ | refine blk_alloc ?_ _)); refine blk_put (cs := #[.int .i64 ((rd_T51 l1 x17_1).f0), .int .i64 0, .slice none 0 0]) ?_ 1 _ rfl; (with_reducible repeat (first | refine blk_drewN ?_ _ | refine blk_drew ?_ | refine blk_alloc ?_ _)); refine blk_put (cs := #[.int .i64 0, .int .i64 0, .slice none 0 0]) ?_ 0 _ rfl; (with_reducible repeat (first | refine blk_drewN ?_ _ | refine blk_drew ?_ | refine blk_alloc ?_ _)); exact BK465.out⟩
          have n5_ : Aside0 (Below w.heap.size w (((w13.setCell ⟨gb465, 0, none⟩ (.int .i64 ((rd_T51 l1 x17_1).f0))).setCell ⟨gb465, 1, none⟩ (.int .i64 ((rd_T51 l1 x17_1).f1))).setCell ⟨gb465, 2, none⟩ (.slice A464_2 ((rd_T51 l1 x17_1).f2).length c464_2))) := ⟨by repeat (first | (with_reducible first | exact HB.out | apply below_alloc | apply pw_below_drewN | apply below_drew1 | refine below_set ?_ GE465.out) | exact HB.out)⟩
          (try clear HO_0)
          (try clear HO_6)
          (try clear HO_15)
          (try clear HL464_2)
          (try clear BK465)
          (try clear HB)
          generalize (((w13.setCell ⟨gb465, 0, none⟩ (.int .i64 ((rd_T51 l1 x17_1).f0))).setCell ⟨gb465, 1, none⟩ (.int .i64 ((rd_T51 l1 x17_1).f1))).setCell ⟨gb465, 2, none⟩ (.slice A464_2 ((rd_T51 l1 x17_1).f2).length c464_2)) = w15 at n0_ n1_ n2_ n3_ n4_ n5_ ⊢
          have HO_0 := n0_
          have HO_6 := n1_
          have HO_15 := n2_
          have HL464_2 := n3_
          have BK465 := n4_
          have HB := n5_
          clear n0_ n1_ n2_ n3_ n4_ n5_
          have n0_ := Aside0.mk (Kd.V_drew HO_0.out)
          have n1_ := Aside0.mk (Kd.R_drew HO_6.out)
          have n2_ := Aside0.mk (Kd.V_drew HO_15.out)
          have n3_ := Aside0.mk (Kd.V_drew HL464_2.out)
          have n4_ := Aside0.mk (blk_drew BK465.out)
          have n5_ := Aside0.mk (below_drew1 HB.out)
          clear HO_0
          clear HO_6
          clear HO_15
          clear HL464_2
          clear BK465
          clear HB
          have HO_0 := n0_
          have HO_6 := n1_
          have HO_15 := n2_
          have HL464_2 := n3_
          have BK465 := n4_
          have HB := n5_
          clear n0_ n1_ n2_ n3_ n4_ n5_
          have q17 : (((rd_T51 l1 x17_1).f0) : Int) ≤ ((l0.length : Int) : Int) := of_decide_eq_true (by first | (with_reducible assumption) | assumption)
          obtain ⟨i017, hi017, _, hsz17, _⟩ := info_parts info9
          have hroom17 : l0.length ≤ c0 := (Kd.V_reads' HO_0.out).2.1
          have hC17 : Kd.F Kd.string _ _ A0 l0.length l0 := (Kd.V_at (base := w.heap.size) HO_0.out).2.2
          have ql17 : (x7_1 : Int) ≤ (((rd_T51 l1 x17_1).f0) : Int) := of_decide_eq_true (by first | (with_reducible assumption) | assumption)
          have q017 : (0 : Int) ≤ (x7_1 : Int) := of_decide_eq_true (by first | (with_reducible assumption) | assumption)
          have hcut17 := cut_mid (P := Try.prog) 22 9 .i64 .i64 Try.underlying22 hi017 1 hsz17 A0 l0.length c0 x7_1 ((rd_T51 l1 x17_1).f0) q017 ql17 q17 hroom17
          have hr17 := Kd.F_mid (lo := (x7_1 : Int).toNat) (hi := (((rd_T51 l1 x17_1).f0) : Int).toNat) (c := c0) hC17 (by omega) (by omega) hroom17
          obtain ⟨A17, hA17⟩ : ∃ A1, A1 = (if c0 = (x7_1 : Int).toNat then A0 else (A0 : Option Addr).map (·.add ((x7_1 : Int).toNat * 1))) := ⟨_, rfl⟩
          obtain ⟨c17, hc17⟩ : ∃ c1, c1 = c0 - (x7_1 : Int).toNat := ⟨_, rfl⟩
          have hy17 : y466.length = (((rd_T51 l1 x17_1).f0) : Int).toNat - (x7_1 : Int).toNat := (by rw [Ny466.out, List.length_drop, List.length_take] <;> omega)
          rw [show ((l0).take (((rd_T51 l1 x17_1).f0) : Int).toNat).drop (x7_1 : Int).toNat = y466 from Ny466.out.symm] at hr17
          replace hr17 : Kd.F Kd.string _ _ A17 y466.length y466 := (by rw [hA17]; exact hr17)
          rw [← hy17, ← hA17, ← hc17] at hcut17
          have HO470 := Aside0.mk (show Kd.V Kd.string 9 _ w.heap.size _ (.slice A17 y466.length c17) y466 from Kd.V_mk (by rw [hy17, hc17]; exact Nat.sub_le_sub_right (Nat.le_trans (by omega) hroom17) _) hr17)
          have HC470 := Aside0.mk (show y466.length ≤ c17 from by rw [hy17, hc17]; exact Nat.sub_le_sub_right (Nat.le_trans (by omega) hroom17) _)
          clear hr17 hC17 hroom17 hi017 hsz17 hc17
          have KY17 := Aside0.mk hy17
          have KA17 := Aside0.mk hA17
          clear hy17 hA17
          replace q17 := eq_true q17
          obtain ⟨Ao18, co18, eo18⟩ := Kd.R_slice HO_6.out
          (first | subst eo18 | (injection eo18 with f1_ f2_ f3_; have f4_ := f1_.symm; have f5_ := f3_.symm; clear f1_ f2_ f3_; subst f4_; subst f5_))
          refine start_ (n := 11) (S := fun w' => w'.cell? ⟨gb465, 0, none⟩ = some (.int .i64 ((rd_T51 l1 x17_1).f0)) ∧ w'.cell? ⟨gb465, 1, none⟩ = some (.int .i64 ((rd_T51 l1 x17_1).f1)) ∧ w'.cell? ⟨gb465, 2, none⟩ = some (.slice A464_2 ((rd_T51 l1 x17_1).f2).length c464_2)) (ds := []) #[false, false, false, false, false, false, false, false, false, false, false] (by kernel_rfl) rfl rfl ⟨(blk_cell BK465.out 0).trans rfl, (blk_cell BK465.out 1).trans rfl, (blk_cell BK465.out 2).trans rfl⟩ (fun hHeld => ?_); refine with_tabW diff_Play.tab8 diff_Play.bits8 (fun HT_ HW_ => ?_)
          generalize w15.drew = w16 at HO_0 HO_6 HO_15 HL464_2 BK465 HB HO470 hHeld ⊢
          refine pure_ (i := 0) (N := some 21) (v := ?_) (a' := ?_) #[true, false, false, false, false, false, false, false, false, false, false] rfl rfl (any_of HT_.out (by kernel_rfl)) (fun _ _ _ h => h) (Or.inl ⟨by rfl, ?_⟩) ?_ ?_
          rotate_left
          ·intro w'
           go_simp
           with_reducible rfl
          rotate_left
          ·simp only [Act.put, List.setIfInBounds_toArray, List.set_cons_zero, List.set_cons_succ, i64_w, i32_w]
           rfl
          refine pure_ (i := 1) (N := some 22) (v := ?_) (a' := ?_) #[true, true, false, false, false, false, false, false, false, false, false] rfl rfl (any_of HT_.out (by kernel_rfl)) (fun _ _ _ h => h) (Or.inl ⟨by rfl, ?_⟩) ?_ ?_
          rotate_left
          ·intro w'
           go_simp
           with_reducible rfl
          rotate_left
          ·simp only [Act.put, List.setIfInBounds_toArray, List.set_cons_zero, List.set_cons_succ, i64_w, i32_w]
           rfl
          refine pure_ (i := 2) (N := some 23) (v := ?_) (a' := ?_) #[true, true, true, false, false, false, false, false, false, false, false] rfl rfl (any_of HT_.out (by kernel_rfl)) (fun _ _ _ h => h) (Or.inl ⟨by rfl, ?_⟩) ?_ ?_
          rotate_left
          ·intro w'
           go_simp
           with_reducible rfl
          rotate_left
          ·simp only [Act.put, List.setIfInBounds_toArray, List.set_cons_zero, List.set_cons_succ, i64_w, i32_w]
           rfl
          refine pure_ (i := 3) (N := some 24) (v := ?_) (a' := ?_) #[true, true, true, true, false, false, false, false, false, false, false] rfl rfl (any_of HT_.out (by kernel_rfl)) (fun _ _ _ h => h) (Or.inl ⟨by rfl, ?_⟩) ?_ ?_
          rotate_left
          ·intro w'
           go_simp
           with_reducible rfl
          rotate_left
          ·simp only [Act.put, List.setIfInBounds_toArray, List.set_cons_zero, List.set_cons_succ, i64_w, i32_w]
           rfl
          refine pure_ (i := 6) (N := some 27) (v := ?_) (a' := ?_) #[true, true, true, true, false, false, true, false, false, false, false] rfl rfl (any_of HT_.out (by kernel_rfl)) (fun _ _ _ h => h) (Or.inl ⟨by rfl, ?_⟩) ?_ ?_
          rotate_left
          ·intro w'
           go_simp
           with_reducible rfl
          rotate_left
          ·simp only [Act.put, List.setIfInBounds_toArray, List.set_cons_zero, List.set_cons_succ, i64_w, i32_w]
           rfl
          refine take_ (i := 4) (N := some 25) (v := ?_) (a' := ?_) #[true, true, true, true, true, false, true, false, false, false, false] rfl rfl (take_ofW HT_.out HW_.out (by kernel_rfl)) (fun _ _ _ h => h) (Or.inl ⟨by rfl, ?_⟩) hHeld ?_ ?_
          rotate_left
          ·rintro w' ⟨s0, s1, s2⟩
           go_simp
           with_reducible rfl
          rotate_left
          ·simp only [Act.put, List.setIfInBounds_toArray, List.set_cons_zero, List.set_cons_succ, i64_w, i32_w]
           rfl
          refine pure_ (i := 5) (N := some 26) (v := ?_) (a' := ?_) #[true, true, true, true, true, true, true, false, false, false, false] rfl rfl (any_of HT_.out (by kernel_rfl)) (fun _ _ _ h => h) (Or.inl ⟨by rfl, ?_⟩) ?_ ?_
          rotate_left
          ·intro w'
           go_simp
           with_reducible rfl
          rotate_left
          ·simp only [Act.put, List.setIfInBounds_toArray, List.set_cons_zero, List.set_cons_succ, i64_w, i32_w]
           rfl
          refine take_ (i := 7) (N := some 28) (v := ?_) (a' := ?_) #[true, true, true, true, true, true, true, true, false, false, false] rfl rfl (take_ofW HT_.out HW_.out (by kernel_rfl)) (fun _ _ _ h => h) (Or.inl ⟨by rfl, ?_⟩) hHeld ?_ ?_
          rotate_left
          ·rintro w' ⟨s0, s1, s2⟩
           go_simp
           with_reducible rfl
          rotate_left
          ·simp only [Act.put, List.setIfInBounds_toArray, List.set_cons_zero, List.set_cons_succ, i64_w, i32_w]
           rfl
          refine one_ (i := 8) (N := some 29) #[true, true, true, true, true, true, true, true, true, false, false] rfl rfl (one_of HT_.out (by kernel_rfl)) (by decide) (fun K hK => ?_)
          refine Kd.N_lit_step (Kd.slice 9 Kd.string) _ 22 ?hg (N' := 29) ?hd (xs := ([x6_1, y466, (rd_T51 l1 x17_1).f2] : List (List ByteArray))) (inner := [.slice Ao18 x6_1.length co18, .slice A17 y466.length c17, .slice A464_2 ((rd_T51 l1 x17_1).f2).length c464_2]) (ok := (fun k_ => ((P0_ k_ ∨ P1_ k_) ∨ w.heap.size ≤ k_) ∧ k_ ≠ gb465)) (okp := (fun k_ => ((P0_ k_ ∨ P1_ k_) ∨ w.heap.size ≤ k_) ∧ k_ ≠ gb465)) ?hr ?hp (fun _ hk => hk) ((show ∀ k_, w16.heap.size ≤ k_ → (fun k_ => ((P0_ k_ ∨ P1_ k_) ∨ w.heap.size ≤ k_) ∧ k_ ≠ gb465) k_ from fun k_ hk => ⟨(.inr (Nat.le_trans (below_size (by repeat (first | (with_reducible first | exact HB.out | apply below_alloc | apply pw_below_drewN | apply below_drew1 | refine below_set ?_ GE465.out) | exact HB.out))) hk)), Kd.freshB (g := gb465) (o := .cells #[.int .i64 ((rd_T51 l1 x17_1).f0), .int .i64 ((rd_T51 l1 x17_1).f1), .slice A464_2 ((rd_T51 l1 x17_1).f2).length c464_2] 51 (0, 0)) (by (with_reducible repeat (first | refine blk_drewN ?_ _ | refine blk_drew ?_ | refine blk_alloc ?_ _)); exact BK465.out) k_ hk⟩) _ (Nat.le_refl _)) (Below.refl _ _) (Nat.le_refl _) (by simp) ?_; (case hd => rfl); (case hg => rfl); (case hr => first | (go_simp; done) | (go_simp; rfl)); (case hp => exact (Reps.one (show Kd.FK (Kd.slice 9 Kd.string) _ _ x6_1 [.slice Ao18 x6_1.length co18] from (Kd.FK_slice_mk (Kd.R_reads' (Kd.R_mono (ok' := (fun k_ => ((P0_ k_ ∨ P1_ k_) ∨ w.heap.size ≤ k_) ∧ k_ ≠ gb465)) (Kd.R_types (HO_6.out) BK465.out (by decide)) (fun k_ hk => ⟨(.inr (hk.1)), hk.2⟩))).2.1 (Kd.R_F (Kd.R_mono (ok' := (fun k_ => ((P0_ k_ ∨ P1_ k_) ∨ w.heap.size ≤ k_) ∧ k_ ≠ gb465)) (Kd.R_types (HO_6.out) BK465.out (by decide)) (fun k_ hk => ⟨(.inr (hk.1)), hk.2⟩))))) (Reps.one (show Kd.FK (Kd.slice 9 Kd.string) _ _ y466 [.slice A17 y466.length c17] from (Kd.FK_slice_mk (Kd.V_reads' (Kd.V_mono (ok' := (fun k_ => ((P0_ k_ ∨ P1_ k_) ∨ w.heap.size ≤ k_) ∧ k_ ≠ gb465)) (HO470.out) (fun k_ hk => ⟨hk.1, hk.2.2⟩))).2.1 (Kd.V_F (Kd.V_mono (ok' := (fun k_ => ((P0_ k_ ∨ P1_ k_) ∨ w.heap.size ≤ k_) ∧ k_ ≠ gb465)) (HO470.out) (fun k_ hk => ⟨hk.1, hk.2.2⟩))))) (Reps.one (show Kd.FK (Kd.slice 9 Kd.string) _ _ ((rd_T51 l1 x17_1).f2) [.slice A464_2 ((rd_T51 l1 x17_1).f2).length c464_2] from (Kd.FK_slice_mk (Kd.V_reads' (Kd.V_mono (ok' := (fun k_ => ((P0_ k_ ∨ P1_ k_) ∨ w.heap.size ≤ k_) ∧ k_ ≠ gb465)) (HL464_2.out) (fun k_ hk => ⟨hk.1, hk.2.2⟩))).2.1 (Kd.V_F (Kd.V_mono (ok' := (fun k_ => ((P0_ k_ ∨ P1_ k_) ∨ w.heap.size ≤ k_) ∧ k_ ≠ gb465)) (HL464_2.out) (fun k_ hk => ⟨hk.1, hk.2.2⟩))))) (Reps.none _ _)))))
          intro v472 w19 ho20 hb hg_ hnew_
          clear hg_ hnew_
          (first | rw [← Ny471.out] at ho20 | (simp only [Int.reduceToNat] at ho20; rw [← Ny471.out] at ho20))
          have n0_ := Aside0.mk (Kd.V_elder' (by (with_reducible repeat (first | apply Kd.V_alloc | apply Kd.V_drewN | apply Kd.V_drew)); exact HO_0.out) (by first | exact Kd.N_base ho20 | exact Kd.S_base ho20) hb)
          have n1_ := Aside0.mk (Kd.V_elder' (by (with_reducible repeat (first | apply Kd.V_alloc | apply Kd.V_drewN | apply Kd.V_drew)); exact HO_15.out) (by first | exact Kd.N_base ho20 | exact Kd.S_base ho20) hb)
          have n2_ := Aside0.mk (Kd.V_elder' (by (with_reducible repeat (first | apply Kd.V_alloc | apply Kd.V_drewN | apply Kd.V_drew)); exact HL464_2.out) (by first | exact Kd.N_base ho20 | exact Kd.S_base ho20) hb)
          have n3_ := Aside0.mk (Kd.V_elder' (by (with_reducible repeat (first | apply Kd.V_alloc | apply Kd.V_drewN | apply Kd.V_drew)); exact HO470.out) (by first | exact Kd.N_base ho20 | exact Kd.S_base ho20) hb)
          have n4_ := Aside0.mk (Kd.N_lower ho20 (below_size (by repeat (first | (with_reducible first | exact HB.out | apply below_alloc | apply pw_below_drewN | apply below_drew1 | refine below_set ?_ GE465.out) | exact HB.out))))
          have n5_ := Aside0.mk (blk_below (g := gb465) (o := .cells #[.int .i64 ((rd_T51 l1 x17_1).f0), .int .i64 ((rd_T51 l1 x17_1).f1), .slice A464_2 ((rd_T51 l1 x17_1).f2).length c464_2] 51 (0, 0)) (by (with_reducible repeat (first | refine blk_drewN ?_ _ | refine blk_drew ?_ | refine blk_alloc ?_ _)); exact BK465.out) hb)
          have n6_ := Aside0.mk (below_step (by repeat (first | (with_reducible first | exact HB.out | apply below_alloc | apply pw_below_drewN | apply below_drew1 | refine below_set ?_ GE465.out) | exact HB.out)) hb)
          clear HO_0
          clear HO_15
          clear HL464_2
          clear HO470
          clear BK465
          clear HB
          clear HO_6
          have HO_0 := n0_
          have HO_15 := n1_
          have HL464_2 := n2_
          have HO470 := n3_
          have HO473 := n4_
          have BK465 := n5_
          have HB := n6_
          clear n0_ n1_ n2_ n3_ n4_ n5_ n6_
          clear hb ho20
          obtain ⟨Ao21, co21, eo21⟩ := Kd.N_slice HO473.out
          (first | subst eo21 | (injection eo21 with f1_ f2_ f3_; have f4_ := f1_.symm; have f5_ := f3_.symm; clear f1_ f2_ f3_; subst f4_; subst f5_))
          refine hK.out _ _ ⟨(blk_cell BK465.out 0).trans rfl, (blk_cell BK465.out 1).trans rfl, (blk_cell BK465.out 2).trans rfl⟩ (fun hHeld => ?_)
          clear hK K
          refine norm_ (a' := ?_) ?_ ?_
          rotate_left
          ·show Act.put _ (some 29) _ = _
           simp only [Act.put, List.setIfInBounds_toArray, List.set_cons_zero, List.set_cons_succ, i64_w, i32_w]
           rfl
          refine one_ (i := 9) (N := some 30) #[true, true, true, true, true, true, true, true, true, true, false] rfl rfl (one_of HT_.out (by kernel_rfl)) (by decide) (fun K hK => ?_)
          refine goes_ Try.func34 (by kernel_rfl) rfl #[.slice Ao21 y471.length co21] (by rfl) rfl rfl (by (try simp only [List.map_toArray, List.map_cons, List.map_nil]); first | done | rfl | (simp only [List.length_drop, List.length_take]; rfl)) ?_
          with_reducible refine (slices_Concat_string_string.calls _ _ y471 t474 _ ?side1 ?side2 A12.out).mono ?_
          (case side1 => repeat (first | exact (Kd.N_reads' HO473.out).2.2 | (with_reducible refine Kd.C_alloc ?_ _) | (with_reducible refine Kd.C_drewN ?_ _) | (with_reducible refine Kd.C_drew ?_)))
          (case side2 => exact (Kd.N_reads' HO473.out).2.1)
          rintro e w22 ⟨v475, rfl, ho0, hb⟩
          refine ⟨_, rfl, ?_⟩
          have n0_ := Aside0.mk (Kd.V_elder' (by (with_reducible repeat (first | apply Kd.V_alloc | apply Kd.V_drewN | apply Kd.V_drew)); exact HO_0.out) (Kd.R_base ho0) hb)
          have n1_ := Aside0.mk (Kd.V_elder' (by (with_reducible repeat (first | apply Kd.V_alloc | apply Kd.V_drewN | apply Kd.V_drew)); exact HO_15.out) (Kd.R_base ho0) hb)
          have n2_ := Aside0.mk (Kd.V_elder' (by (with_reducible repeat (first | apply Kd.V_alloc | apply Kd.V_drewN | apply Kd.V_drew)); exact HL464_2.out) (Kd.R_base ho0) hb)
          have n3_ := Aside0.mk (Kd.V_elder' (by (with_reducible repeat (first | apply Kd.V_alloc | apply Kd.V_drewN | apply Kd.V_drew)); exact HO470.out) (Kd.R_base ho0) hb)
          have n4_ := Aside0.mk (Kd.N_elder' (by (with_reducible repeat (first | apply Kd.N_alloc | apply Kd.N_drewN | apply Kd.N_drew)); exact HO473.out) (Kd.R_base ho0) hb)
          have n5_ := Aside0.mk (Kd.R_lower (Kd.R_newM (M := fun k_ => (w.heap.size ≤ k_)) ho0 (below_size (by repeat (first | (with_reducible first | exact HB.out | apply below_alloc | apply pw_below_drewN | apply below_drew1 | refine below_set ?_ GE465.out) | exact HB.out))) (fun k_ h_ => h_)) (below_size (by repeat (first | (with_reducible first | exact HB.out | apply below_alloc | apply pw_below_drewN | apply below_drew1 | refine below_set ?_ GE465.out) | exact HB.out))))
          have n6_ := Aside0.mk (blk_below (g := gb465) (o := .cells #[.int .i64 ((rd_T51 l1 x17_1).f0), .int .i64 ((rd_T51 l1 x17_1).f1), .slice A464_2 ((rd_T51 l1 x17_1).f2).length c464_2] 51 (0, 0)) (by (with_reducible repeat (first | refine blk_drewN ?_ _ | refine blk_drew ?_ | refine blk_alloc ?_ _)); exact BK465.out) hb)
          have n7_ := Aside0.mk (below_step (by repeat (first | (with_reducible first | exact HB.out | apply below_alloc | apply pw_below_drewN | apply below_drew1 | refine below_set ?_ GE465.out) | exact HB.out)) hb)
          clear HO_0
          clear HO_15
          clear HL464_2
          clear HO470
          clear HO473
          clear BK465
          clear HB
          have HO_0 := n0_
          have HO_15 := n1_
          have HL464_2 := n2_
          have HO470 := n3_
          have HO473 := n4_
          have HO476 := n5_
          have BK465 := n6_
          have HB := n7_
          clear n0_ n1_ n2_ n3_ n4_ n5_ n6_ n7_
          (try clear hb)
          (try clear hb2)
          (try clear hk)
          (try clear hi)
          (try clear ho0)
          refine hK.out _ _ ⟨(blk_cell BK465.out 0).trans rfl, (blk_cell BK465.out 1).trans rfl, (blk_cell BK465.out 2).trans rfl⟩ (fun hHeld => ?_)
          clear hK K
          refine norm_ (a' := ?_) ?_ ?_
          rotate_left
          ·show Act.put _ (some 30) _ = _
           simp only [Act.put, List.setIfInBounds_toArray, List.set_cons_zero, List.set_cons_succ, i64_w, i32_w]
           rfl
          refine pure_ (i := 10) (N := some 6) (v := ?_) (a' := ?_) #[true, true, true, true, true, true, true, true, true, true, true] rfl rfl (any_of HT_.out (by kernel_rfl)) (fun _ _ _ h => h) (Or.inl ⟨by rfl, ?_⟩) ?_ ?_
          rotate_left
          ·intro w'
           go_simp
           with_reducible rfl
          rotate_left
          ·simp only [Act.put, List.setIfInBounds_toArray, List.set_cons_zero, List.set_cons_succ, i64_w, i32_w]
           rfl
          refine done_ (done_of HT_.out (by kernel_rfl)) ?_
          have hcz23_0 : w22.cell? ⟨gb465, 0, none⟩ = some (.int .i64 ((rd_T51 l1 x17_1).f0)) := (blk_cell BK465.out 0).trans rfl
          have hcz23_1 : w22.cell? ⟨gb465, 1, none⟩ = some (.int .i64 ((rd_T51 l1 x17_1).f1)) := (blk_cell BK465.out 1).trans rfl
          have hcz23_2 : w22.cell? ⟨gb465, 2, none⟩ = some (.slice A464_2 ((rd_T51 l1 x17_1).f2).length c464_2) := (blk_cell BK465.out 2).trans rfl
          have hfz23_0 := blk_frozen BK465.out 0
          have hfz23_1 := blk_frozen BK465.out 1
          have hfz23_2 := blk_frozen BK465.out 2
          try go_wp2
          go_roundg k1
          case measure => have := HK1.out; omega
          case rel => exact ⟨(t474), (wrap64 (((rd_T51 l1 x17_1).f0) + ((rd_T51 l1 x17_1).f1))), (wrap64 (x17_1 + 1)), (by first | rfl | (simp; done) | (simp [*]; done)), (by first | rfl | (simp; done) | (simp [*]; done)), H', ⟨by have := HK1.out; omega⟩, ⟨by (with_reducible repeat (first | apply Kd.V_alloc | apply Kd.V_drewN | apply Kd.V_drew)); exact Kd.V_mono HO_0.out (fun _ hk => ⟨hk.1.1.1, hk.2⟩)⟩, ⟨by (with_reducible repeat (first | apply Kd.R_alloc | apply Kd.R_drewN | apply Kd.R_drew)); exact Kd.R_mono HO476.out (fun _ hk => hk.1)⟩, ⟨by (with_reducible repeat (first | apply Kd.V_alloc | apply Kd.V_drewN | apply Kd.V_drew)); exact Kd.V_mono HO_15.out (fun _ hk => ⟨hk.1.1.1, hk.2⟩)⟩, ⟨by repeat (first | (with_reducible first | exact HB.out | apply below_alloc | apply pw_below_drewN | apply below_drew1 | refine below_set ?_ GE465.out) | exact HB.out)⟩⟩
         ·rw [if_neg c11] at H
          exact absurd H (by simp)
        ·rw [if_neg c10] at H
         exact absurd H (by simp)
       ·rw [if_neg c9] at H
        exact absurd H (by simp)
      ·rw [if_neg c8] at H
       exact absurd H (by simp)
     ·rw [if_neg c7] at H
      exact absurd H (by simp)
    ·rw [if_neg c6] at H
     have c6b0 : decide (x17_1 < (l1.length : Int)) = false := decide_eq_false c6
     clear c6
     by_cases c24 : 0 ≤ x7_1
     ·rw [if_pos c24] at H
      have c24b0 := eq_true c24
      have c24b1 : decide (0 ≤ x7_1) = true := decide_eq_true c24
      clear c24
      by_cases c25 : x7_1 ≤ (l0.length : Int)
      ·rw [if_pos c25] at H
       have c25b0 := eq_true c25
       have c25b1 : decide (x7_1 ≤ (l0.length : Int)) = true := decide_eq_true c25
       clear c25
       obtain ⟨y477, hy477⟩ : ∃ y_ : List ByteArray, y_ = (l0.drop (x7_1 : Int).toNat) := ⟨_, rfl⟩
       replace H : ((slices_Concat_string_string.f (([x6_1, y477] : List (List ByteArray)))).bind fun t485 => (some (t485, true))) = some (r1, r2) := by first | (rw [hy477]; with_reducible exact H) | (have H2_ := (Option.bind_some _ _).symm.trans H; rw [hy477]; with_reducible exact H2_) | (have H2_ := (Option.bind_some _ _).symm.trans H; with_reducible exact H2_) | with_reducible exact H | (rw [hy477]; exact H) | exact H
       have Ny477 := Aside0.mk hy477
       clear hy477
       obtain ⟨y482, hy482⟩ : ∃ y_ : List (List ByteArray), y_ = (([x6_1, y477] : List (List ByteArray))) := ⟨_, rfl⟩
       replace H : ((slices_Concat_string_string.f y482).bind fun t485 => (some (t485, true))) = some (r1, r2) := by first | (rw [hy482]; with_reducible exact H) | (have H2_ := (Option.bind_some _ _).symm.trans H; rw [hy482]; with_reducible exact H2_) | (have H2_ := (Option.bind_some _ _).symm.trans H; with_reducible exact H2_) | with_reducible exact H | (rw [hy482]; exact H) | exact H
       have Ny482 := Aside0.mk hy482
       clear hy482
       replace H := Option.bind_eq_some_iff.mp H
       obtain ⟨t485, A260, H⟩ := H
       replace H : (some (t485, true)) = some (r1, r2) := H
       have A26 := Aside0.mk A260
       clear A260
       simp only [Option.some.injEq, Prod.mk.injEq] at H
       obtain ⟨rfl, rfl⟩ := H
       have q27 : (x7_1 : Int) ≤ ((l0.length : Int) : Int) := of_decide_eq_true (by first | (with_reducible assumption) | assumption)
       obtain ⟨i027, hi027, _, hsz27, _⟩ := info_parts info9
       have hroom27 : l0.length ≤ c0 := (Kd.V_reads' HO_0.out).2.1
       have hC27 : Kd.F Kd.string _ _ A0 l0.length l0 := (Kd.V_at (base := w.heap.size) HO_0.out).2.2
       have q027 : (0 : Int) ≤ (x7_1 : Int) := of_decide_eq_true (by first | (with_reducible assumption) | assumption)
       have hcut27 := cut_from (P := Try.prog) 22 9 .i64 Try.underlying22 hi027 1 hsz27 A0 l0.length c0 x7_1 q027 q27
       have hr27 := Kd.F_cut (m := (x7_1 : Int).toNat) (c := c0) hC27 (by omega) hroom27
       obtain ⟨A27, hA27⟩ : ∃ A1, A1 = (if c0 = (x7_1 : Int).toNat then A0 else (A0 : Option Addr).map (·.add ((x7_1 : Int).toNat * 1))) := ⟨_, rfl⟩
       obtain ⟨c27, hc27⟩ : ∃ c1, c1 = c0 - (x7_1 : Int).toNat := ⟨_, rfl⟩
       have hy27 : y477.length = l0.length - (x7_1 : Int).toNat := (by rw [Ny477.out, List.length_drop] <;> omega)
       rw [show (l0).drop (x7_1 : Int).toNat = y477 from Ny477.out.symm] at hr27
       replace hr27 : Kd.F Kd.string _ _ A27 y477.length y477 := (by rw [hA27]; exact hr27)
       rw [← hy27, ← hA27, ← hc27] at hcut27
       have HO481 := Aside0.mk (show Kd.V Kd.string 9 _ w.heap.size _ (.slice A27 y477.length c27) y477 from Kd.V_mk (by rw [hy27, hc27]; exact Nat.sub_le_sub_right hroom27 _) hr27)
       have HC481 := Aside0.mk (show y477.length ≤ c27 from by rw [hy27, hc27]; exact Nat.sub_le_sub_right hroom27 _)
       clear hr27 hC27 hroom27 hi027 hsz27 hc27
       have KY27 := Aside0.mk hy27
       have KA27 := Aside0.mk hA27
       clear hy27 hA27
       replace q27 := eq_true q27
       obtain ⟨Ao28, co28, eo28⟩ := Kd.R_slice HO_6.out
       subst eo28
       go_wp2_with (first | ((with_reducible refine gate_dst (N := 41) rfl ?_); refine Kd.N_lit (Kd.slice 9 Kd.string) _ 22 ?hg (N' := 41) ?hd (xs := ([x6_1, y477] : List (List ByteArray))) (inner := [.slice Ao28 x6_1.length co28, .slice A27 y477.length c27]) (ok := (fun k_ => ((P0_ k_ ∨ P1_ k_) ∨ w.heap.size ≤ k_))) (okp := (fun k_ => ((P0_ k_ ∨ P1_ k_) ∨ w.heap.size ≤ k_))) ?hr ?hp (fun _ hk => hk) ((show ∀ k_, wr.heap.size ≤ k_ → (fun k_ => ((P0_ k_ ∨ P1_ k_) ∨ w.heap.size ≤ k_)) k_ from fun k_ hk => (.inr (Nat.le_trans (below_size (by repeat (first | (with_reducible first | exact HB.out | apply below_alloc | apply pw_below_drewN | apply below_drew1) | exact HB.out))) hk))) _ (Nat.le_refl _)) (Below.refl _ _) (Nat.le_refl _) (by simp) ?_; (case hd => rfl); (case hg => rfl); (case hr => first | (go_simp; done) | (go_simp; rfl)); (case hp => exact (Reps.one (show Kd.FK (Kd.slice 9 Kd.string) _ _ x6_1 [.slice Ao28 x6_1.length co28] from (Kd.FK_slice_mk (Kd.R_reads' (Kd.R_mono (ok' := (fun k_ => ((P0_ k_ ∨ P1_ k_) ∨ w.heap.size ≤ k_))) (HO_6.out) (fun k_ hk => (.inr (hk))))).2.1 (Kd.R_F (Kd.R_mono (ok' := (fun k_ => ((P0_ k_ ∨ P1_ k_) ∨ w.heap.size ≤ k_))) (HO_6.out) (fun k_ hk => (.inr (hk))))))) (Reps.one (show Kd.FK (Kd.slice 9 Kd.string) _ _ y477 [.slice A27 y477.length c27] from (Kd.FK_slice_mk (Kd.V_reads' (Kd.V_mono (ok' := (fun k_ => ((P0_ k_ ∨ P1_ k_) ∨ w.heap.size ≤ k_))) (HO481.out) (fun k_ hk => hk.1))).2.1 (Kd.V_F (Kd.V_mono (ok' := (fun k_ => ((P0_ k_ ∨ P1_ k_) ∨ w.heap.size ≤ k_))) (HO481.out) (fun k_ hk => hk.1))))) (Reps.none _ _)))); intro v483 w29 ho30 hb hg_ hnew_; clear hg_ hnew_; (first | rw [← Ny482.out] at ho30 | (simp only [Int.reduceToNat] at ho30; rw [← Ny482.out] at ho30)); have n0_ := Aside0.mk (Kd.V_elder' (by (with_reducible repeat (first | apply Kd.V_alloc | apply Kd.V_drewN | apply Kd.V_drew)); exact HO_0.out) (by first | exact Kd.N_base ho30 | exact Kd.S_base ho30) hb); have n1_ := Aside0.mk (Kd.V_elder' (by (with_reducible repeat (first | apply Kd.V_alloc | apply Kd.V_drewN | apply Kd.V_drew)); exact HO_15.out) (by first | exact Kd.N_base ho30 | exact Kd.S_base ho30) hb); have n2_ := Aside0.mk (Kd.V_elder' (by (with_reducible repeat (first | apply Kd.V_alloc | apply Kd.V_drewN | apply Kd.V_drew)); exact HO481.out) (by first | exact Kd.N_base ho30 | exact Kd.S_base ho30) hb); have n3_ := Aside0.mk (Kd.N_lower ho30 (below_size (by repeat (first | (with_reducible first | exact HB.out | apply below_alloc | apply pw_below_drewN | apply below_drew1) | exact HB.out)))); have n4_ := Aside0.mk (below_step (by repeat (first | (with_reducible first | exact HB.out | apply below_alloc | apply pw_below_drewN | apply below_drew1) | exact HB.out)) hb); clear HO_0; clear HO_15; clear HO481; clear HB; clear HO_6; have HO_0 := n0_; have HO_15 := n1_; have HO481 := n2_; have HO484 := n3_; have HB := n4_; clear n0_ n1_ n2_ n3_ n4_; clear hb ho30; obtain ⟨Ao31, co31, eo31⟩ := Kd.N_slice HO484.out; subst eo31) | ((with_reducible refine gate_callee (f := 34) rfl ?_); refine goesL_ (some 42) rfl rfl Try.func34 (by kernel_rfl) rfl #[.slice Ao31 y482.length co31] rfl (by (try simp only [List.map_toArray, List.map_cons, List.map_nil]); first | done | rfl | (simp only [List.length_drop, List.length_take]; rfl)) ?_; (with_reducible refine (slices_Concat_string_string.calls _ _ y482 t485 _ ?side1 ?side2 A26.out).mono ?_); (case side1 => repeat (first | exact (Kd.N_reads' HO484.out).2.2 | (with_reducible refine Kd.C_alloc ?_ _) | (with_reducible refine Kd.C_drewN ?_ _) | (with_reducible refine Kd.C_drew ?_))); (case side2 => exact (Kd.N_reads' HO484.out).2.1); rintro e w32 ⟨v486, rfl, ho0, hb⟩; refine ⟨_, rfl, ?_⟩; have n0_ := Aside0.mk (Kd.V_elder' (by (with_reducible repeat (first | apply Kd.V_alloc | apply Kd.V_drewN | apply Kd.V_drew)); exact HO_0.out) (Kd.R_base ho0) hb); have n1_ := Aside0.mk (Kd.V_elder' (by (with_reducible repeat (first | apply Kd.V_alloc | apply Kd.V_drewN | apply Kd.V_drew)); exact HO_15.out) (Kd.R_base ho0) hb); have n2_ := Aside0.mk (Kd.V_elder' (by (with_reducible repeat (first | apply Kd.V_alloc | apply Kd.V_drewN | apply Kd.V_drew)); exact HO481.out) (Kd.R_base ho0) hb); have n3_ := Aside0.mk (Kd.N_elder' (by (with_reducible repeat (first | apply Kd.N_alloc | apply Kd.N_drewN | apply Kd.N_drew)); exact HO484.out) (Kd.R_base ho0) hb); have n4_ := Aside0.mk (Kd.R_lower (Kd.R_newM (M := fun k_ => (w.heap.size ≤ k_)) ho0 (below_size (by repeat (first | (with_reducible first | exact HB.out | apply below_alloc | apply pw_below_drewN | apply below_drew1) | exact HB.out))) (fun k_ h_ => h_)) (below_size (by repeat (first | (with_reducible first | exact HB.out | apply below_alloc | apply pw_below_drewN | apply below_drew1) | exact HB.out)))); have n5_ := Aside0.mk (below_step (by repeat (first | (with_reducible first | exact HB.out | apply below_alloc | apply pw_below_drewN | apply below_drew1) | exact HB.out)) hb); clear HO_0; clear HO_15; clear HO481; clear HO484; clear HB; have HO_0 := n0_; have HO_15 := n1_; have HO481 := n2_; have HO484 := n3_; have HO487 := n4_; have HB := n5_; clear n0_ n1_ n2_ n3_ n4_ n5_; (try clear hb); (try clear hb2); (try clear hk); (try clear hi); (try clear ho0)))
       go_ret2
       exact ⟨_, by first | rfl | (simp [errW_none, errW_some] <;> rfl) | (simp [*, errW_none, errW_some] <;> rfl), by (with_reducible repeat (first | apply Kd.R_alloc | apply Kd.R_drewN | apply Kd.R_drew)); exact Kd.R_mono HO487.out (fun _ hk => hk.1), by repeat (first | (with_reducible first | exact HB.out | apply below_alloc | apply pw_below_drewN | apply below_drew1) | exact HB.out)⟩
      ·rw [if_neg c25] at H
       exact absurd H (by simp)
     ·rw [if_neg c24] at H
      exact absurd H (by simp)
 ·replace c4 := Bool.eq_false_iff.mpr c4
  subst c4
  have H1 : (some (([] : List ByteArray), false)) = some (r1, r2) := by rw [if_neg (show ¬ (false = true) by decide)] at H; exact H
  clear H
  have H := H1
  clear H1
  simp only [Option.some.injEq, Prod.mk.injEq] at H
  obtain ⟨rfl, rfl⟩ := H
  go_enter Try.func25, Try.ntmps25
  go_wp2_with (first | ((with_reducible refine gate_callee (f := 28) rfl ?_); refine goesL_ (some 13) rfl rfl Try.func28 (by kernel_rfl) rfl #[.int .i64 (l0.length : Int), .slice A1 l1.length c1] rfl (by (try simp only [List.map_toArray, List.map_cons, List.map_nil]); first | done | rfl | (simp only [List.length_drop, List.length_take]; rfl)) ?_; (with_reducible refine (diff_Right.calls k (l0.length : Int) _ _ l1 false _ ?side1 ?side2 A3.out).mono ?_); (case side1 => repeat (first | exact (Kd.V_reads' HO1.out).2.2 | (with_reducible refine Kd.C_alloc ?_ _) | (with_reducible refine Kd.C_drewN ?_ _) | (with_reducible refine Kd.C_drew ?_))); (case side2 => exact (Kd.V_reads' HO1.out).2.1); rintro e w33 ⟨rfl, hb⟩; refine ⟨_, rfl, ?_⟩; have n0_ := Aside0.mk (Kd.V_below (by (with_reducible repeat (first | apply Kd.V_alloc | apply Kd.V_drewN | apply Kd.V_drew)); exact HO0.out) hb); have n1_ := Aside0.mk (Kd.V_below (by (with_reducible repeat (first | apply Kd.V_alloc | apply Kd.V_drewN | apply Kd.V_drew)); exact HO1.out) hb); have n2_ := Aside0.mk (below_step (by repeat (first | (with_reducible first | exact HB.out | apply below_alloc | apply pw_below_drewN | apply below_drew1) | exact HB.out)) hb); clear HO0; clear HO1; clear HB; have HO0 := n0_; have HO1 := n1_; have HB := n2_; clear n0_ n1_ n2_; (try clear hb); (try clear hb2); (try clear hk); (try clear hi)))
  go_ret2
  exact ⟨_, by first | rfl | (simp [errW_none, errW_some] <;> rfl) | (simp [*, errW_none, errW_some] <;> rfl), by first | exact Kd.R_nil _ _ _ _ _ | exact Kd.N_nil _ _ _ _ _ | exact Kd.V_nil _ _ _ _ _ | exact Kd.Q_nil _ _ _ _ _ | exact Kd.S_nil _ _ _ _ _, by repeat (first | (with_reducible first | exact HB.out | apply below_alloc | apply pw_below_drewN | apply below_drew1) | exact HB.out)⟩

end Go.Proofs.Ytlabiajcohmjhaa.Pr
