-- written by a program of this session's (a turned copy of the kit's printer); Lean checks it
import Derived.Test.YtlabiajcohmjhaaD0
import Derived.Test.YtlabiajcohmjhaaGSlices
import Derived.Test.YtlabiajcohmjhaaD1a
namespace Go.Proofs.Ytlabiajcohmjhaa.Pr
open Go.RowKit Go.Proofs.YtlabiajcohmjhaaW.PrintWords Go.Proofs.YtlabiajcohmjhaaW.PrintLast Go.Proofs.YtlabiajcohmjhaaW.PrintMore
attribute [local go_sem] max2_int min2_int max_two min_two max_three min_three max_four min_four   -- for this text's walks alone
set_option linter.unusedVariables false
set_option linter.unusedSimpArgs false

def diff_Turn.l0 : Nat → List ByteArray → List (S51) → Int → List (S51) → Int → Int → Option ((List (S51)))
 | 0, _, _, _, _, _, _ => none
 | k + 1, x0, x5, x6, x14, x15, x16 => if x16 < x15 then (if 0 ≤ x16 then (if x16 < (x14.length : Int) then (if 0 ≤ ((rd_T51 x14 x16).f0) then (if ((rd_T51 x14 x16).f0) ≤ (wrap64 (((rd_T51 x14 x16).f0) + ((rd_T51 x14 x16).f1))) then (if (wrap64 (((rd_T51 x14 x16).f0) + ((rd_T51 x14 x16).f1))) ≤ (x0.length : Int) then ((slices_Clone_string_string.f ((x0.take ((wrap64 (((rd_T51 x14 x16).f0) + ((rd_T51 x14 x16).f1))) : Int).toNat).drop (((rd_T51 x14 x16).f0) : Int).toNat)).bind fun t492 => (if x5.length < 3518437208883 then (diff_Turn.l0 k x0 (x5 ++ [(⟨wrap64 (((rd_T51 x14 x16).f0) + x6), (((rd_T51 x14 x16).f2).length : Int), t492⟩ : S51)]) (wrap64 (x6 + (wrap64 ((((rd_T51 x14 x16).f2).length : Int) - ((rd_T51 x14 x16).f1))))) x14 x15 (wrap64 (x16 + 1))) else (none))) else (none)) else (none)) else (none)) else (none)) else (none)) else (some x5)
def diff_Turn.f (k : Nat) (l0 : List ByteArray) (l1 : List (S51)) : Option ((List (S51))) := (diff_Right.f k (l0.length : Int) l1).bind fun t488 => (if t488 = true then (diff_Turn.l0 k l0 ([] : List (S51)) 0 l1 (l1.length : Int) 0) else (some ([] : List (S51))))
theorem diff_Turn.mono_l : ∀ k, (∀ y0 y1 y2 y3 y4 y5, LeO (diff_Turn.l0 k y0 y1 y2 y3 y4 y5) (diff_Turn.l0 (k + 1) y0 y1 y2 y3 y4 y5))
 | 0 => fun _ _ _ _ _ _ r h => by simp [diff_Turn.l0] at h
 | k + 1 => by
  have ih0 := diff_Turn.mono_l k
  ·intro y0 y1 y2 y3 y4 y5
   unfold diff_Turn.l0
   repeat' first
   | (with_reducible exact ih0 _ _ _ _ _ _)
   | (with_reducible exact diff_Right.mono _ _ _)
   | (with_reducible exact LeO.refl _)
   | (with_reducible exact LeO.none _)
   | (with_reducible refine LeO.ite ?_ ?_)
   | (with_reducible refine LeO.bind ?_ (fun _ => ?_))
   | exact ih0 _ _ _ _ _ _
   | exact diff_Right.mono _ _ _
   | exact LeO.none _
   | refine LeO.ite ?_ ?_
   | refine LeO.bind ?_ (fun _ => ?_)
theorem diff_Turn.mono : ∀ a0 a1 k, LeO (diff_Turn.f k a0 a1) (diff_Turn.f (k + 1) a0 a1) := by
 intro a0 a1 k
 have ih0 := diff_Turn.mono_l k
 unfold diff_Turn.f
 repeat' first
   | (with_reducible exact ih0 _ _ _ _ _ _)
   | (with_reducible exact diff_Right.mono _ _ _)
   | (with_reducible exact LeO.refl _)
   | (with_reducible exact LeO.none _)
   | (with_reducible refine LeO.ite ?_ ?_)
   | (with_reducible refine LeO.bind ?_ (fun _ => ?_))
   | exact ih0 _ _ _ _ _ _
   | exact diff_Right.mono _ _ _
   | exact LeO.none _
   | refine LeO.ite ?_ ?_
   | refine LeO.bind ?_ (fun _ => ?_)
def diff_Turn.T8 : Bool × List (List Nat × List Nat) := (true, [([], []), ([], []), ([1], [1]), ([], []), ([2, 3], [2, 3]), ([], []), ([5], [5]), ([6], [6]), ([], []), ([], []), ([9], [9]), ([], []), ([11], [11]), ([], []), ([13], [13]), ([12, 14], [12, 14]), ([8, 10, 15], [8, 10, 15]), ([16], [16]), ([4, 7, 17], [4, 7, 17]), ([18], [18]), ([0, 19, 17], [0, 19]), ([20, 20, 0, 1, 2, 3, 4, 5, 6, 7, 8, 9, 10, 11, 12, 13, 14, 15, 16, 17, 18, 19, 20], [0, 20])])
def diff_Turn.B8 : List Nat := [0, 0, 2, 0, 14, 0, 32, 96, 0, 0, 512, 0, 2048, 0, 8192, 30720, 65280, 130816, 262142, 524286, 1048575, 2097151]
theorem diff_Turn.tab8 : rtab .any (opsOf Try.f27 8) = diff_Turn.T8 := by kernel_rfl
theorem diff_Turn.bits8 : waitsOk diff_Turn.T8.2 diff_Turn.B8 = true := by kernel_rfl
set_option maxHeartbeats 8000000 in
set_option maxRecDepth 100000 in
theorem diff_Turn.calls (k : Nat) (A0 : Option Addr) (c0 : Nat) (l0 : List ByteArray) (A1 : Option Addr) (c1 : Nat) (l1 : List (S51)) (r : List (S51)) (w : World) (hr0 : Kd.C Kd.string w A0 l0.length l0) (hc0 : l0.length ≤ c0) (hr1 : Kd.C k51 w A1 l1.length l1) (hc1 : l1.length ≤ c1) (h : diff_Turn.f k l0 l1 = some r) :
  Calls Try.prog 27 #[.slice A0 l0.length c0, .slice A1 l1.length c1] w fun e w' => ∃ v0_ : Value, e = .returned (v0_) ∧ Kd.S k51 51 w' w.heap.size (fun _ => True) v0_ r ∧ Below w.heap.size w w' := by
 have hu51 := Try.underlying51
 have HR0 := Aside0.mk hr0
 have HC0 := Aside0.mk hc0
 clear hr0 hc0
 have HR1 := Aside0.mk hr1
 have HC1 := Aside0.mk hc1
 clear hr1 hc1
 have HB := Aside0.mk (Below.refl w.heap.size w)
 have H : ((diff_Right.f k (l0.length : Int) l1).bind fun t488 => (if t488 = true then (diff_Turn.l0 k l0 ([] : List (S51)) 0 l1 (l1.length : Int) 0) else (some ([] : List (S51))))) = some r := h
 clear h
 replace H := Option.bind_eq_some_iff.mp H
 obtain ⟨t488, A30, H⟩ := H
 replace H : (if t488 = true then (diff_Turn.l0 k l0 ([] : List (S51)) 0 l1 (l1.length : Int) 0) else (some ([] : List (S51)))) = some r := H
 have A3 := Aside0.mk A30
 clear A30
 by_cases c4 : t488 = true
 ·subst c4
  have H1 : (diff_Turn.l0 k l0 ([] : List (S51)) 0 l1 (l1.length : Int) 0) = some r := by rw [if_pos rfl] at H; exact H
  clear H
  have H := H1
  clear H1
  have H' := Aside0.mk H
  clear H
  go_enter Try.func27, Try.ntmps27
  go_wp2_with (first | ((with_reducible refine gate_callee (f := 28) rfl ?_); refine goesL_ (some 12) rfl rfl Try.func28 (by kernel_rfl) rfl #[.int .i64 (l0.length : Int), .slice A1 l1.length c1] rfl (by (try simp only [List.map_toArray, List.map_cons, List.map_nil]); first | done | rfl | (simp only [List.length_drop, List.length_take]; rfl)) ?_; (with_reducible refine (diff_Right.calls k (l0.length : Int) _ _ l1 true _ ?side1 ?side2 A3.out).mono ?_); (case side1 => repeat (first | exact HR1.out | (with_reducible refine Kd.C_alloc ?_ _) | (with_reducible refine Kd.C_drewN ?_ _) | (with_reducible refine Kd.C_drew ?_))); (case side2 => exact HC1.out); rintro e w5 ⟨rfl, hb⟩; refine ⟨_, rfl, ?_⟩; have n0_ := Aside0.mk (below_step (by repeat (first | (with_reducible first | exact HB.out | apply below_alloc | apply pw_below_drewN | apply below_drew1) | exact HB.out)) hb); clear HB; have HB := n0_; clear n0_; (try clear hb); (try clear hb2); (try clear hk); (try clear hi)))
  go_loopg [5, 6, 16] k (fun kq v5 v6 v16 w' => ∃ (x5_1 : List (S51)) (x6_1 : Int) (x16_1 : Int), v6 = .int .i64 x6_1 ∧ v16 = .int .i64 x16_1 ∧ Aside0 (diff_Turn.l0 kq l0 x5_1 x6_1 l1 (l1.length : Int) x16_1 = some r) ∧ Aside0 (kq ≤ k) ∧ Aside0 (Kd.S k51 51 w' w.heap.size (fun _ => True) v5 x5_1) ∧ Aside0 (Below w.heap.size w w'))
  case atStart => exact ⟨(([] : List (S51))), (0), (0), (by first | rfl | (simp; done) | (simp [*]; done)), (by first | rfl | (simp; done) | (simp [*]; done)), H', ⟨Nat.le_refl _⟩, ⟨by first | exact Kd.S_nil _ _ _ _ _ | exact Kd.N_nil _ _ _ _ _ | exact Kd.V_nil _ _ _ _ _ | exact Kd.Q_nil _ _ _ _ _ | exact Kd.R_nil _ _ _ _ _⟩, ⟨by repeat (first | (with_reducible first | exact HB.out | apply below_alloc | apply pw_below_drewN | apply below_drew1) | exact HB.out)⟩⟩
  case round =>
   clear H'
   try clear c1
   try clear c2
   try clear p2
   try clear c4
   obtain ⟨x5_1, x6_1, x16_1, rfl, rfl, HA, HK1, HO_5, HB⟩ := hrel
   cases gk with
   | zero => exact absurd HA.out (by simp [diff_Turn.l0])
   | succ k1 =>
    have H := HA.out
    clear HA
    simp only [diff_Turn.l0] at H
    by_cases c6 : x16_1 < (l1.length : Int)
    ·rw [if_pos c6] at H
     have c6b0 : decide (x16_1 < (l1.length : Int)) = true := decide_eq_true c6
     clear c6
     by_cases c7 : 0 ≤ x16_1
     ·rw [if_pos c7] at H
      have c7b0 : decide (0 ≤ x16_1) = true := decide_eq_true c7
      clear c7
      by_cases c8 : x16_1 < (l1.length : Int)
      ·rw [if_pos c8] at H
       have c8b0 : decide (x16_1 < (l1.length : Int)) = true := decide_eq_true c8
       clear c8
       by_cases c9 : 0 ≤ ((rd_T51 l1 x16_1).f0)
       ·rw [if_pos c9] at H
        have c9b0 := eq_true c9
        have c9b1 : decide (0 ≤ ((rd_T51 l1 x16_1).f0)) = true := decide_eq_true c9
        clear c9
        by_cases c10 : ((rd_T51 l1 x16_1).f0) ≤ (wrap64 (((rd_T51 l1 x16_1).f0) + ((rd_T51 l1 x16_1).f1)))
        ·rw [if_pos c10] at H
         have c10b0 := eq_true c10
         have c10b1 : decide (((rd_T51 l1 x16_1).f0) ≤ (wrap64 (((rd_T51 l1 x16_1).f0) + ((rd_T51 l1 x16_1).f1)))) = true := decide_eq_true c10
         by_cases c11 : (wrap64 (((rd_T51 l1 x16_1).f0) + ((rd_T51 l1 x16_1).f1))) ≤ (l0.length : Int)
         ·rw [if_pos c11] at H
          have c11b0 := eq_true c11
          have c11b1 : decide ((wrap64 (((rd_T51 l1 x16_1).f0) + ((rd_T51 l1 x16_1).f1))) ≤ (l0.length : Int)) = true := decide_eq_true c11
          replace H := Option.bind_eq_some_iff.mp H
          obtain ⟨t492, A120, H⟩ := H
          replace H : (if x5_1.length < 3518437208883 then (diff_Turn.l0 k1 l0 (x5_1 ++ [(⟨wrap64 (((rd_T51 l1 x16_1).f0) + x6_1), (((rd_T51 l1 x16_1).f2).length : Int), t492⟩ : S51)]) (wrap64 (x6_1 + (wrap64 ((((rd_T51 l1 x16_1).f2).length : Int) - ((rd_T51 l1 x16_1).f1))))) l1 (l1.length : Int) (wrap64 (x16_1 + 1))) else (none)) = some r := H
          have A12 := Aside0.mk A120
          clear A120
          by_cases c13 : x5_1.length < 3518437208883
          ·rw [if_pos c13] at H
           have LMc13 := Aside0.mk c13
           clear c13
           obtain ⟨y495, hy495⟩ : ∃ y_ : List (S51), y_ = (x5_1 ++ [(⟨wrap64 (((rd_T51 l1 x16_1).f0) + x6_1), (((rd_T51 l1 x16_1).f2).length : Int), t492⟩ : S51)]) := ⟨_, rfl⟩
           replace H : (diff_Turn.l0 k1 l0 y495 (wrap64 (x6_1 + (wrap64 ((((rd_T51 l1 x16_1).f2).length : Int) - ((rd_T51 l1 x16_1).f1))))) l1 (l1.length : Int) (wrap64 (x16_1 + 1))) = some r := by first | (rw [hy495]; with_reducible exact H) | (have H2_ := (Option.bind_some _ _).symm.trans H; rw [hy495]; with_reducible exact H2_) | (have H2_ := (Option.bind_some _ _).symm.trans H; with_reducible exact H2_) | with_reducible exact H | (rw [hy495]; exact H) | exact H
           have Ny495 := Aside0.mk hy495
           clear hy495
           have H' := Aside0.mk H
           clear H
           have p489 : 0 ≤ (x16_1 : Int) := of_decide_eq_true (by first | (with_reducible assumption) | assumption)
           have q489 : x16_1 < (l1.length : Int) := of_decide_eq_true (by first | (with_reducible assumption) | assumption)
           obtain ⟨ad489, A489_2, c489_2, e489, hx489_0, hx489_1, hx489_2, hl489_2, hi489_2⟩ := at_T51 HR1.out x16_1 p489 q489
           cases e489
           replace hx489_0 := (HB.out.cell (World.block_lt_of_cell? w _ hx489_0)).trans hx489_0
           replace hx489_1 := (HB.out.cell (World.block_lt_of_cell? w _ hx489_1)).trans hx489_1
           replace hx489_2 := (HB.out.cell (World.block_lt_of_cell? w _ hx489_2)).trans hx489_2
           have HR489_2 := Aside0.mk hi489_2
           have HC489_2 := Aside0.mk hl489_2
           clear hi489_2 hl489_2
           replace p489 := eq_true p489
           replace q489 := eq_true q489
           try go_wp2_with (first | ((with_reducible refine gate_dst (N := 8) rfl ?_); refine box_event ?hg (N := 8) ?hd (cs := #[.int .i64 0, .int .i64 0, .slice none 0 0]) (t := 51) ?hr ?_; (case hd => rfl); (case hg => rfl); (case hr => first | (go_simp; done) | (go_simp; rfl)); intro gb490 hg w14 hbox hb; have n0_ := Aside0.mk (Kd.S_below (Kd.S_elderB (by (with_reducible repeat (first | apply Kd.S_alloc | apply Kd.S_drewN | apply Kd.S_drew)); exact HO_5.out) gb490 (Nat.le_of_eq hg.symm)) hb); have n1_ := Aside0.mk (below_step (by repeat (first | (with_reducible first | exact HB.out | apply below_alloc | apply pw_below_drewN | apply below_drew1) | exact HB.out)) hb); have n2_ := Aside0.mk (hbox); have n3_ := Aside0.mk ((by rw [hg]; exact (below_size (by repeat (first | (with_reducible first | exact HB.out | apply below_alloc | apply pw_below_drewN | apply below_drew1) | exact HB.out))) : w.heap.size ≤ gb490)); have n4_ := Aside0.mk ((by rw [hg]; exact (below_size (by repeat (first | (with_reducible first | exact HB.out | apply below_alloc | apply pw_below_drewN | apply below_drew1) | exact HB.out))) : w.heap.size ≤ gb490)); clear HO_5; clear HB; have HO_5 := n0_; have HB := n1_; have BK490 := n2_; have GW490 := n3_; have GE490 := n4_; clear n0_ n1_ n2_ n3_ n4_; clear hb hbox hg; have hcz15_0 : w14.cell? ⟨gb490, 0, none⟩ = some (.int .i64 0) := (blk_cell BK490.out 0).trans rfl; have hcz15_1 : w14.cell? ⟨gb490, 1, none⟩ = some (.int .i64 0) := (blk_cell BK490.out 1).trans rfl; have hcz15_2 : w14.cell? ⟨gb490, 2, none⟩ = some (.slice none 0 0) := (blk_cell BK490.out 2).trans rfl; have hfz15_0 := blk_frozen BK490.out 0; have hfz15_1 := blk_frozen BK490.out 1; have hfz15_2 := blk_frozen BK490.out 2))
           have n0_ : Aside0 (Kd.S k51 51 (((w14.setCell ⟨gb490, 0, none⟩ (.int .i64 ((rd_T51 l1 x16_1).f0))).setCell ⟨gb490, 1, none⟩ (.int .i64 ((rd_T51 l1 x16_1).f1))).setCell ⟨gb490, 2, none⟩ (.slice A489_2 ((rd_T51 l1 x16_1).f2).length c489_2)) w.heap.size (fun k_ => k_ ≠ gb490) u5 x5_1) := ⟨by (with_reducible repeat (first | apply Kd.S_alloc | apply Kd.S_drewN | apply Kd.S_drew)); exact Kd.S_mono (Kd.S_far (p := ⟨gb490, 2, none⟩) (Kd.S_far (p := ⟨gb490, 1, none⟩) (Kd.S_far (p := ⟨gb490, 0, none⟩) (Kd.S_mono HO_5.out (fun k_ hk => (⟨hk, hk.2⟩ : _ ∧ k_ ≠ gb490))) (fun _ hk => hk.2) (.int .i64 ((rd_T51 l1 x16_1).f0))) (fun _ hk => hk.2) (.int .i64 ((rd_T51 l1 x16_1).f1))) (fun _ hk => hk.2) (.slice A489_2 ((rd_T51 l1 x16_1).f2).length c489_2)) (fun _ hk => hk.1.2)⟩
           have n1_ : Aside0 ((((w14.setCell ⟨gb490, 0, none⟩ (.int .i64 ((rd_T51 l1 x16_1).f0))).setCell ⟨gb490, 1, none⟩ (.int .i64 ((rd_T51 l1 x16_1).f1))).setCell ⟨gb490, 2, none⟩ (.slice A489_2 ((rd_T51 l1 x16_1).f2).length c489_2)).heap[gb490]? = some (.cells #[.int .i64 ((rd_T51 l1 x16_1).f0), .int .i64 ((rd_T51 l1 x16_1).f1), .slice A489_2 ((rd_T51 l1 x16_1).f2).length c489_2] 51 (0, 0))) := ⟨by (with_reducible repeat (first | refine blk_drewN ?_ _ | refine blk_drew ?_ | refine blk_alloc ?_ _)); refine blk_put (cs := #[.int .i64 ((rd_T51 l1 x16_1).f0), .int .i64 ((rd_T51 l1 x16_1).f1), .slice none 0 0]) ?_ 2 _ rfl; (with_reducible repeat (first | refine blk_drewN ?_ _ | refine blk_drew ?_ | refine blk_alloc ?_ _)); refine blk_put (cs := #[.int .i64 ((rd_T51 l1 x16_1).f0), .int .i64 0, .slice none 0 0]) ?_ 1 _ rfl; (with_reducible repeat (first | refine blk_drewN ?_ _ | refine blk_drew ?_ | refine blk_alloc ?_ _)); refine blk_put (cs := #[.int .i64 0, .int .i64 0, .slice none 0 0]) ?_ 0 _ rfl; (with_reducible repeat (first | refine blk_drewN ?_ _ | refine blk_drew ?_ | refine blk_alloc ?_ _)); exact BK490.out⟩
           have n2_ : Aside0 (Below w.heap.size w (((w14.setCell ⟨gb490, 0, none⟩ (.int .i64 ((rd_T51 l1 x16_1).f0))).setCell ⟨gb490, 1, none⟩ (.int .i64 ((rd_T51 l1 x16_1).f1))).setCell ⟨gb490, 2, none⟩ (.slice A489_2 ((rd_T51 l1 x16_1).f2).length c489_2))) := ⟨by repeat (first | (with_reducible first | exact HB.out | apply below_alloc | apply pw_below_drewN | apply below_drew1 | refine below_set ?_ GE490.out) | exact HB.out)⟩
           (try clear HO_5)
           (try clear BK490)
           (try clear HB)
           generalize (((w14.setCell ⟨gb490, 0, none⟩ (.int .i64 ((rd_T51 l1 x16_1).f0))).setCell ⟨gb490, 1, none⟩ (.int .i64 ((rd_T51 l1 x16_1).f1))).setCell ⟨gb490, 2, none⟩ (.slice A489_2 ((rd_T51 l1 x16_1).f2).length c489_2)) = w16 at n0_ n1_ n2_ ⊢
           have HO_5 := n0_
           have BK490 := n1_
           have HB := n2_
           clear n0_ n1_ n2_
           have n0_ := Aside0.mk (Kd.S_drew HO_5.out)
           have n1_ := Aside0.mk (blk_drew BK490.out)
           have n2_ := Aside0.mk (below_drew1 HB.out)
           clear HO_5
           clear BK490
           clear HB
           have HO_5 := n0_
           have BK490 := n1_
           have HB := n2_
           clear n0_ n1_ n2_
           obtain ⟨i018, hi018, _, hsz18, _⟩ := info_parts info9
           obtain ⟨A18, hcut18, hA18, hC18⟩ := print_mid_of (P := Try.prog) Value.string (⟨#[]⟩ : ByteArray) 22 9 .i64 .i64 Try.underlying22 hi018 hsz18 A0 c0 l0 ((rd_T51 l1 x16_1).f0) (wrap64 (((rd_T51 l1 x16_1).f0) + ((rd_T51 l1 x16_1).f1))) (of_decide_eq_true (by first | (with_reducible assumption) | assumption)) (by first | omega | exact of_decide_eq_true (by first | (with_reducible assumption) | assumption)) (of_decide_eq_true (by first | (with_reducible assumption) | assumption)) HC0.out
           have HR491 := Aside0.mk (Kd.C_of_reads (h1 := fun _ => rfl) (hA18 _ (Kd.reads_of_C HR0.out)))
           have HC491 := Aside0.mk hC18
           clear hA18 hC18 hi018 hsz18
           refine start_ (n := 22) (S := fun w' => w'.cell? ⟨gb490, 0, none⟩ = some (.int .i64 ((rd_T51 l1 x16_1).f0)) ∧ w'.cell? ⟨gb490, 1, none⟩ = some (.int .i64 ((rd_T51 l1 x16_1).f1)) ∧ w'.cell? ⟨gb490, 2, none⟩ = some (.slice A489_2 ((rd_T51 l1 x16_1).f2).length c489_2)) (ds := []) #[false, false, false, false, false, false, false, false, false, false, false, false, false, false, false, false, false, false, false, false, false, false] (by kernel_rfl) rfl rfl ⟨(blk_cell BK490.out 0).trans rfl, (blk_cell BK490.out 1).trans rfl, (blk_cell BK490.out 2).trans rfl⟩ (fun hHeld => ?_); refine with_tabW diff_Turn.tab8 diff_Turn.bits8 (fun HT_ HW_ => ?_)
           generalize w16.drew = w17 at HO_5 BK490 HB HR491 hHeld ⊢
           refine pure_ (i := 0) (N := some 20) (v := ?_) (a' := ?_) #[true, false, false, false, false, false, false, false, false, false, false, false, false, false, false, false, false, false, false, false, false, false] rfl rfl (any_of HT_.out (by kernel_rfl)) (fun _ _ _ h => h) (Or.inl ⟨by rfl, ?_⟩) ?_ ?_
           rotate_left
           ·intro w'
            go_simp
            with_reducible rfl
           rotate_left
           ·simp only [Act.put, List.setIfInBounds_toArray, List.set_cons_zero, List.set_cons_succ, i64_w, i32_w]
            rfl
           refine pure_ (i := 1) (N := some 21) (v := ?_) (a' := ?_) #[true, true, false, false, false, false, false, false, false, false, false, false, false, false, false, false, false, false, false, false, false, false] rfl rfl (any_of HT_.out (by kernel_rfl)) (fun _ _ _ h => h) (Or.inl ⟨by rfl, ?_⟩) ?_ ?_
           rotate_left
           ·intro w'
            go_simp
            with_reducible rfl
           rotate_left
           ·simp only [Act.put, List.setIfInBounds_toArray, List.set_cons_zero, List.set_cons_succ, i64_w, i32_w]
            rfl
           refine pure_ (i := 3) (N := some 23) (v := ?_) (a' := ?_) #[true, true, false, true, false, false, false, false, false, false, false, false, false, false, false, false, false, false, false, false, false, false] rfl rfl (any_of HT_.out (by kernel_rfl)) (fun _ _ _ h => h) (Or.inl ⟨by rfl, ?_⟩) ?_ ?_
           rotate_left
           ·intro w'
            go_simp
            with_reducible rfl
           rotate_left
           ·simp only [Act.put, List.setIfInBounds_toArray, List.set_cons_zero, List.set_cons_succ, i64_w, i32_w]
            rfl
           refine pure_ (i := 5) (N := some 25) (v := ?_) (a' := ?_) #[true, true, false, true, false, true, false, false, false, false, false, false, false, false, false, false, false, false, false, false, false, false] rfl rfl (any_of HT_.out (by kernel_rfl)) (fun _ _ _ h => h) (Or.inl ⟨by rfl, ?_⟩) ?_ ?_
           rotate_left
           ·intro w'
            go_simp
            with_reducible rfl
           rotate_left
           ·simp only [Act.put, List.setIfInBounds_toArray, List.set_cons_zero, List.set_cons_succ, i64_w, i32_w]
            rfl
           refine pure_ (i := 8) (N := some 28) (v := ?_) (a' := ?_) #[true, true, false, true, false, true, false, false, true, false, false, false, false, false, false, false, false, false, false, false, false, false] rfl rfl (any_of HT_.out (by kernel_rfl)) (fun _ _ _ h => h) (Or.inl ⟨by rfl, ?_⟩) ?_ ?_
           rotate_left
           ·intro w'
            go_simp
            with_reducible rfl
           rotate_left
           ·simp only [Act.put, List.setIfInBounds_toArray, List.set_cons_zero, List.set_cons_succ, i64_w, i32_w]
            rfl
           refine pure_ (i := 9) (N := some 29) (v := ?_) (a' := ?_) #[true, true, false, true, false, true, false, false, true, true, false, false, false, false, false, false, false, false, false, false, false, false] rfl rfl (any_of HT_.out (by kernel_rfl)) (fun _ _ _ h => h) (Or.inl ⟨by rfl, ?_⟩) ?_ ?_
           rotate_left
           ·intro w'
            go_simp
            with_reducible rfl
           rotate_left
           ·simp only [Act.put, List.setIfInBounds_toArray, List.set_cons_zero, List.set_cons_succ, i64_w, i32_w]
            rfl
           refine pure_ (i := 11) (N := some 31) (v := ?_) (a' := ?_) #[true, true, false, true, false, true, false, false, true, true, false, true, false, false, false, false, false, false, false, false, false, false] rfl rfl (any_of HT_.out (by kernel_rfl)) (fun _ _ _ h => h) (Or.inl ⟨by rfl, ?_⟩) ?_ ?_
           rotate_left
           ·intro w'
            go_simp
            with_reducible rfl
           rotate_left
           ·simp only [Act.put, List.setIfInBounds_toArray, List.set_cons_zero, List.set_cons_succ, i64_w, i32_w]
            rfl
           refine pure_ (i := 13) (N := some 33) (v := ?_) (a' := ?_) #[true, true, false, true, false, true, false, false, true, true, false, true, false, true, false, false, false, false, false, false, false, false] rfl rfl (any_of HT_.out (by kernel_rfl)) (fun _ _ _ h => h) (Or.inl ⟨by rfl, ?_⟩) ?_ ?_
           rotate_left
           ·intro w'
            go_simp
            with_reducible rfl
           rotate_left
           ·simp only [Act.put, List.setIfInBounds_toArray, List.set_cons_zero, List.set_cons_succ, i64_w, i32_w]
            rfl
           refine take_ (i := 2) (N := some 22) (v := ?_) (a' := ?_) #[true, true, true, true, false, true, false, false, true, true, false, true, false, true, false, false, false, false, false, false, false, false] rfl rfl (take_ofW HT_.out HW_.out (by kernel_rfl)) (fun _ _ _ h => h) (Or.inl ⟨by rfl, ?_⟩) hHeld ?_ ?_
           rotate_left
           ·rintro w' ⟨s0, s1, s2⟩
            go_simp
            with_reducible rfl
           rotate_left
           ·simp only [Act.put, List.setIfInBounds_toArray, List.set_cons_zero, List.set_cons_succ, i64_w, i32_w]
            rfl
           refine pure_ (i := 4) (N := some 24) (v := ?_) (a' := ?_) #[true, true, true, true, true, true, false, false, true, true, false, true, false, true, false, false, false, false, false, false, false, false] rfl rfl (any_of HT_.out (by kernel_rfl)) (fun _ _ _ h => h) (Or.inl ⟨by rfl, ?_⟩) ?_ ?_
           rotate_left
           ·intro w'
            go_simp
            with_reducible rfl
           rotate_left
           ·simp only [Act.put, List.setIfInBounds_toArray, List.set_cons_zero, List.set_cons_succ, i64_w, i32_w]
            rfl
           refine take_ (i := 6) (N := some 26) (v := ?_) (a' := ?_) #[true, true, true, true, true, true, true, false, true, true, false, true, false, true, false, false, false, false, false, false, false, false] rfl rfl (take_ofW HT_.out HW_.out (by kernel_rfl)) (fun _ _ _ h => h) (Or.inl ⟨by rfl, ?_⟩) hHeld ?_ ?_
           rotate_left
           ·rintro w' ⟨s0, s1, s2⟩
            go_simp
            with_reducible rfl
           rotate_left
           ·simp only [Act.put, List.setIfInBounds_toArray, List.set_cons_zero, List.set_cons_succ, i64_w, i32_w]
            rfl
           refine pure_ (i := 7) (N := some 27) (v := ?_) (a' := ?_) #[true, true, true, true, true, true, true, true, true, true, false, true, false, true, false, false, false, false, false, false, false, false] rfl rfl (any_of HT_.out (by kernel_rfl)) (fun _ _ _ h => h) (Or.inl ⟨by rfl, ?_⟩) ?_ ?_
           rotate_left
           ·intro w'
            go_simp
            with_reducible rfl
           rotate_left
           ·simp only [Act.put, List.setIfInBounds_toArray, List.set_cons_zero, List.set_cons_succ, i64_w, i32_w]
            rfl
           refine take_ (i := 10) (N := some 30) (v := ?_) (a' := ?_) #[true, true, true, true, true, true, true, true, true, true, true, true, false, true, false, false, false, false, false, false, false, false] rfl rfl (take_ofW HT_.out HW_.out (by kernel_rfl)) (fun _ _ _ h => h) (Or.inl ⟨by rfl, ?_⟩) hHeld ?_ ?_
           rotate_left
           ·rintro w' ⟨s0, s1, s2⟩
            go_simp
            with_reducible rfl
           rotate_left
           ·simp only [Act.put, List.setIfInBounds_toArray, List.set_cons_zero, List.set_cons_succ, i64_w, i32_w]
            rfl
           refine take_ (i := 12) (N := some 32) (v := ?_) (a' := ?_) #[true, true, true, true, true, true, true, true, true, true, true, true, true, true, false, false, false, false, false, false, false, false] rfl rfl (take_ofW HT_.out HW_.out (by kernel_rfl)) (fun _ _ _ h => h) (Or.inl ⟨by rfl, ?_⟩) hHeld ?_ ?_
           rotate_left
           ·rintro w' ⟨s0, s1, s2⟩
            go_simp
            with_reducible rfl
           rotate_left
           ·simp only [Act.put, List.setIfInBounds_toArray, List.set_cons_zero, List.set_cons_succ, i64_w, i32_w]
            rfl
           refine take_ (i := 14) (N := some 34) (v := ?_) (a' := ?_) #[true, true, true, true, true, true, true, true, true, true, true, true, true, true, true, false, false, false, false, false, false, false] rfl rfl (take_ofW HT_.out HW_.out (by kernel_rfl)) (fun _ _ _ h => h) (Or.inl ⟨by rfl, ?_⟩) hHeld ?_ ?_
           rotate_left
           ·rintro w' ⟨s0, s1, s2⟩
            go_simp
            with_reducible rfl
           rotate_left
           ·simp only [Act.put, List.setIfInBounds_toArray, List.set_cons_zero, List.set_cons_succ, i64_w, i32_w]
            rfl
           refine pure_ (i := 15) (N := some 35) (v := ?_) (a' := ?_) #[true, true, true, true, true, true, true, true, true, true, true, true, true, true, true, true, false, false, false, false, false, false] rfl rfl (any_of HT_.out (by kernel_rfl)) (fun _ _ _ h => h) (Or.inl ⟨by rfl, ?_⟩) ?_ ?_
           rotate_left
           ·intro w'
            go_simp
            with_reducible rfl
           rotate_left
           ·simp only [Act.put, List.setIfInBounds_toArray, List.set_cons_zero, List.set_cons_succ, i64_w, i32_w]
            rfl
           refine pure_ (i := 16) (N := some 36) (v := ?_) (a' := ?_) #[true, true, true, true, true, true, true, true, true, true, true, true, true, true, true, true, true, false, false, false, false, false] rfl rfl (any_of HT_.out (by kernel_rfl)) (fun _ _ _ h => h) (Or.inl ⟨by rfl, ?_⟩) ?_ ?_
           rotate_left
           ·intro w'
            go_simp
            with_reducible rfl
           rotate_left
           ·simp only [Act.put, List.setIfInBounds_toArray, List.set_cons_zero, List.set_cons_succ, i64_w, i32_w]
            rfl
           refine one_ (i := 17) (N := some 37) #[true, true, true, true, true, true, true, true, true, true, true, true, true, true, true, true, true, true, false, false, false, false] rfl rfl (one_of HT_.out (by kernel_rfl)) (by decide) (fun K hK => ?_)
           refine goes_ Try.func40 (by kernel_rfl) rfl #[.slice A18 ((l0.take ((wrap64 (((rd_T51 l1 x16_1).f0) + ((rd_T51 l1 x16_1).f1))) : Int).toNat).drop (((rd_T51 l1 x16_1).f0) : Int).toNat).length (c0 - ((rd_T51 l1 x16_1).f0).toNat)] (by rfl) rfl rfl (by (try simp only [List.map_toArray, List.map_cons, List.map_nil]); first | done | (rw [show ((l0.take ((wrap64 (((rd_T51 l1 x16_1).f0) + ((rd_T51 l1 x16_1).f1))) : Int).toNat).drop (((rd_T51 l1 x16_1).f0) : Int).toNat).length = ((wrap64 (((rd_T51 l1 x16_1).f0) + ((rd_T51 l1 x16_1).f1))).toNat - ((rd_T51 l1 x16_1).f0).toNat) from (by rw [List.length_drop, List.length_take]; have h_ : ((wrap64 (((rd_T51 l1 x16_1).f0) + ((rd_T51 l1 x16_1).f1))) : Int) ≤ (l0.length : Int) := of_decide_eq_true (by first | (with_reducible assumption) | assumption); omega)] <;> rfl) | rfl | (simp only [List.length_drop, List.length_take]; rfl)) ?_
           with_reducible refine (slices_Clone_string_string.calls _ _ ((l0.take ((wrap64 (((rd_T51 l1 x16_1).f0) + ((rd_T51 l1 x16_1).f1))) : Int).toNat).drop (((rd_T51 l1 x16_1).f0) : Int).toNat) t492 _ ?side1 ?side2 A12.out).mono ?_
           (case side1 => repeat (first | exact (Kd.C_below HR491.out HB.out) | (with_reducible refine Kd.C_alloc ?_ _) | (with_reducible refine Kd.C_drewN ?_ _) | (with_reducible refine Kd.C_drew ?_)))
           (case side2 => exact HC491.out)
           rintro e w19 ⟨v493, rfl, ho0, hb⟩
           refine ⟨_, rfl, ?_⟩
           have n0_ := Aside0.mk (Kd.S_elder' (by (with_reducible repeat (first | apply Kd.S_alloc | apply Kd.S_drewN | apply Kd.S_drew)); exact HO_5.out) (Kd.R_base ho0) hb)
           have n1_ := Aside0.mk (Kd.R_lower ho0 (below_size (by repeat (first | (with_reducible first | exact HB.out | apply below_alloc | apply pw_below_drewN | apply below_drew1 | refine below_set ?_ GE490.out) | exact HB.out))))
           have n2_ := Aside0.mk (blk_below (g := gb490) (o := .cells #[.int .i64 ((rd_T51 l1 x16_1).f0), .int .i64 ((rd_T51 l1 x16_1).f1), .slice A489_2 ((rd_T51 l1 x16_1).f2).length c489_2] 51 (0, 0)) (by (with_reducible repeat (first | refine blk_drewN ?_ _ | refine blk_drew ?_ | refine blk_alloc ?_ _)); exact BK490.out) hb)
           have n3_ := Aside0.mk (below_step (by repeat (first | (with_reducible first | exact HB.out | apply below_alloc | apply pw_below_drewN | apply below_drew1 | refine below_set ?_ GE490.out) | exact HB.out)) hb)
           clear HO_5
           clear BK490
           clear HB
           have HO_5 := n0_
           have HO494 := n1_
           have BK490 := n2_
           have HB := n3_
           clear n0_ n1_ n2_ n3_
           (try clear hb)
           (try clear hb2)
           (try clear hk)
           (try clear hi)
           (try clear ho0)
           obtain ⟨Ao20, co20, eo20⟩ := Kd.R_slice HO494.out
           (first | subst eo20 | (injection eo20 with f1_ f2_ f3_; have f4_ := f1_.symm; have f5_ := f3_.symm; clear f1_ f2_ f3_; subst f4_; subst f5_))
           refine hK.out _ _ ⟨(blk_cell BK490.out 0).trans rfl, (blk_cell BK490.out 1).trans rfl, (blk_cell BK490.out 2).trans rfl⟩ (fun hHeld => ?_)
           clear hK K
           refine norm_ (a' := ?_) ?_ ?_
           rotate_left
           ·show Act.put _ (some 37) _ = _
            simp only [Act.put, List.setIfInBounds_toArray, List.set_cons_zero, List.set_cons_succ, i64_w, i32_w]
            rfl
           refine pure_ (i := 18) (N := some 38) (v := ?_) (a' := ?_) #[true, true, true, true, true, true, true, true, true, true, true, true, true, true, true, true, true, true, true, false, false, false] rfl rfl (any_of HT_.out (by kernel_rfl)) (fun _ _ _ h => h) (Or.inl ⟨by rfl, ?_⟩) ?_ ?_
           rotate_left
           ·intro w'
            go_simp
            with_reducible rfl
           rotate_left
           ·simp only [Act.put, List.setIfInBounds_toArray, List.set_cons_zero, List.set_cons_succ, i64_w, i32_w]
            rfl
           refine one_ (i := 19) (N := some 39) #[true, true, true, true, true, true, true, true, true, true, true, true, true, true, true, true, true, true, true, true, false, false] rfl rfl (one_of HT_.out (by kernel_rfl)) (by decide) (fun K hK => ?_)
           refine value_ (w1 := ?_) (v := ?_) (by rfl) rfl ?_ ?_
           rotate_left 2
           ·go_simp
            constructor
            ·rfl
            ·rfl
           refine hK.out _ _ ⟨(blk_cell (blk_alloc BK490.out _) 0).trans rfl, (blk_cell (blk_alloc BK490.out _) 1).trans rfl, (blk_cell (blk_alloc BK490.out _) 2).trans rfl⟩ (fun hHeld => ?_)
           clear hK K
           refine norm_ (a' := ?_) ?_ ?_
           rotate_left
           ·show Act.put _ (some 39) _ = _
            simp only [Act.put, List.setIfInBounds_toArray, List.set_cons_zero, List.set_cons_succ, i64_w, i32_w]
            rfl
           refine one_ (i := 20) (N := some 40) #[true, true, true, true, true, true, true, true, true, true, true, true, true, true, true, true, true, true, true, true, true, false] rfl rfl (one_of HT_.out (by kernel_rfl)) (by decide) (fun K hK => ?_)
           refine Kd.S_append_step k51 (w0 := w) w.heap.size (by rfl) (.tmp 20) (.tmp 39) 23 51 (.agg #[(.int .i64 0), (.int .i64 0), (.slice none 0 0)]) 40 rfl Try.underlying23 info51 rfl (by decide) (by omega) u5 x5_1 (⟨wrap64 (((rd_T51 l1 x16_1).f0) + x6_1), (((rd_T51 l1 x16_1).f2).length : Int), t492⟩ : S51) [.int .i64 (wrap64 (((rd_T51 l1 x16_1).f0) + x6_1)), .int .i64 (((rd_T51 l1 x16_1).f2).length : Int), .slice Ao20 t492.length co20] (fun k_ => k_ ≠ gb490) (fun k_ => some k_ = (.slice Ao20 t492.length co20 : Value).ownBlock) rfl rfl ?aP (fun k_ hk_ => ((Kd.R_mono (ok' := fun k_ => ((fun k_ => k_ ≠ gb490)) k_ ∧ some k_ ≠ (u5 : Value).ownBlock) (Kd.R_types (Kd.R_apart' (HO494.out) (Kd.S_typed HO_5.out) (by decide)) BK490.out (by decide)) (fun k_ hk => ⟨hk.2, hk.1.2⟩))).1 k_ hk_.symm) ?aF ?aO ?aB ?aS ?aL ?_
           (case aP => exact k51_mkM _ _ _ (⟨wrap64 (((rd_T51 l1 x16_1).f0) + x6_1), (((rd_T51 l1 x16_1).f2).length : Int), t492⟩ : S51) (Kd.R_mono (Kd.R_tight rfl (Kd.R_mono (ok' := fun k_ => ((fun k_ => k_ ≠ gb490)) k_ ∧ some k_ ≠ (u5 : Value).ownBlock) (Kd.R_types (Kd.R_apart' (HO494.out) (Kd.S_typed HO_5.out) (by decide)) BK490.out (by decide)) (fun k_ hk => ⟨hk.2, hk.1.2⟩))) (fun _ h_ => h_)))
           (case aB => exact (by repeat (first | (with_reducible first | exact HB.out | apply below_alloc | apply pw_below_drewN | apply below_drew1 | refine below_set ?_ GE490.out) | exact HB.out)))
           (case aF => exact (fun k_ hk => Kd.freshB (g := gb490) (o := .cells #[.int .i64 ((rd_T51 l1 x16_1).f0), .int .i64 ((rd_T51 l1 x16_1).f1), .slice A489_2 ((rd_T51 l1 x16_1).f2).length c489_2] 51 (0, 0)) (by (with_reducible repeat (first | refine blk_drewN ?_ _ | refine blk_drew ?_ | refine blk_alloc ?_ _)); exact BK490.out) k_ hk))
           (case aO => exact (by (with_reducible repeat (first | apply Kd.S_alloc | apply Kd.S_drewN | apply Kd.S_drew)); exact Kd.S_mono HO_5.out (fun k_ hk => ⟨hk.1, fun e_ => hk.2 e_⟩)))
           (case aS => exact (below_size (by repeat (first | (with_reducible first | exact HB.out | apply below_alloc | apply pw_below_drewN | apply below_drew1 | refine below_set ?_ GE490.out) | exact HB.out))))
           (case aL => have := LMc13.out; omega)
           intro v496 w21 ho hb hg hat
           rw [← Ny495.out] at ho
           have n0_ := Aside0.mk (blk_grown (g := gb490) (o := .cells #[.int .i64 ((rd_T51 l1 x16_1).f0), .int .i64 ((rd_T51 l1 x16_1).f1), .slice A489_2 ((rd_T51 l1 x16_1).f2).length c489_2] 51 (0, 0)) (by (with_reducible repeat (first | refine blk_drewN ?_ _ | refine blk_drew ?_ | refine blk_alloc ?_ _)); exact BK490.out) hg (Kd.S_away HO_5.out (fun _ hk => hk.1)))
           have n1_ := Aside0.mk (hb)
           have n2_ := Aside0.mk (ho)
           clear BK490
           clear HB
           clear HO_5
           clear HO494
           have BK490 := n0_
           have HB := n1_
           have HO497 := n2_
           clear n0_ n1_ n2_
           clear ho hb hg hat
           refine hK.out _ _ ⟨(blk_cell BK490.out 0).trans rfl, (blk_cell BK490.out 1).trans rfl, (blk_cell BK490.out 2).trans rfl⟩ (fun hHeld => ?_)
           clear hK K
           refine norm_ (a' := ?_) ?_ ?_
           rotate_left
           ·show Act.put _ (some 40) _ = _
            simp only [Act.put, List.setIfInBounds_toArray, List.set_cons_zero, List.set_cons_succ, i64_w, i32_w]
            rfl
           refine pure_ (i := 21) (N := some 5) (v := ?_) (a' := ?_) #[true, true, true, true, true, true, true, true, true, true, true, true, true, true, true, true, true, true, true, true, true, true] rfl rfl (any_of HT_.out (by kernel_rfl)) (fun _ _ _ h => h) (Or.inl ⟨by rfl, ?_⟩) ?_ ?_
           rotate_left
           ·intro w'
            go_simp
            with_reducible rfl
           rotate_left
           ·simp only [Act.put, List.setIfInBounds_toArray, List.set_cons_zero, List.set_cons_succ, i64_w, i32_w]
            rfl
           refine done_ (done_of HT_.out (by kernel_rfl)) ?_
           have hcz22_0 : w21.cell? ⟨gb490, 0, none⟩ = some (.int .i64 ((rd_T51 l1 x16_1).f0)) := (blk_cell BK490.out 0).trans rfl
           have hcz22_1 : w21.cell? ⟨gb490, 1, none⟩ = some (.int .i64 ((rd_T51 l1 x16_1).f1)) := (blk_cell BK490.out 1).trans rfl
           have hcz22_2 : w21.cell? ⟨gb490, 2, none⟩ = some (.slice A489_2 ((rd_T51 l1 x16_1).f2).length c489_2) := (blk_cell BK490.out 2).trans rfl
           have hfz22_0 := blk_frozen BK490.out 0
           have hfz22_1 := blk_frozen BK490.out 1
           have hfz22_2 := blk_frozen BK490.out 2
           try go_wp2
           go_roundg k1
           case measure => have := HK1.out; omega
           case rel => exact ⟨(y495), (wrap64 (x6_1 + (wrap64 ((((rd_T51 l1 x16_1).f2).length : Int) - ((rd_T51 l1 x16_1).f1))))), (wrap64 (x16_1 + 1)), (by first | rfl | (simp; done) | (simp [*]; done)), (by first | rfl | (simp; done) | (simp [*]; done)), H', ⟨by have := HK1.out; omega⟩, ⟨by (with_reducible repeat (first | apply Kd.S_alloc | apply Kd.S_drewN | apply Kd.S_drew)); exact Kd.S_mono HO497.out (fun _ hk => trivial)⟩, ⟨by repeat (first | (with_reducible first | exact HB.out | apply below_alloc | apply pw_below_drewN | apply below_drew1 | refine below_set ?_ GE490.out) | exact HB.out)⟩⟩
          ·rw [if_neg c13] at H
           exact absurd H (by simp)
         ·rw [if_neg c11] at H
          exact absurd H (by simp)
        ·rw [if_neg c10] at H
         exact absurd H (by simp)
       ·rw [if_neg c9] at H
        exact absurd H (by simp)
      ·rw [if_neg c8] at H
       exact absurd H (by simp)
     ·rw [if_neg c7] at H
      exact absurd H (by simp)
    ·rw [if_neg c6] at H
     have c6b0 : decide (x16_1 < (l1.length : Int)) = false := decide_eq_false c6
     clear c6
     obtain rfl := Option.some.inj H
     go_wp2
     go_ret
     exact ⟨_, by first | rfl | (simp [errW_none, errW_some] <;> rfl) | (simp [*, errW_none, errW_some] <;> rfl), by (with_reducible repeat (first | apply Kd.S_alloc | apply Kd.S_drewN | apply Kd.S_drew)); exact HO_5.out, by repeat (first | (with_reducible first | exact HB.out | apply below_alloc | apply pw_below_drewN | apply below_drew1) | exact HB.out)⟩
 ·replace c4 := Bool.eq_false_iff.mpr c4
  subst c4
  have H1 : (some ([] : List (S51))) = some r := by rw [if_neg (show ¬ (false = true) by decide)] at H; exact H
  clear H
  have H := H1
  clear H1
  obtain rfl := Option.some.inj H
  go_enter Try.func27, Try.ntmps27
  go_wp2_with (first | ((with_reducible refine gate_callee (f := 28) rfl ?_); refine goesL_ (some 12) rfl rfl Try.func28 (by kernel_rfl) rfl #[.int .i64 (l0.length : Int), .slice A1 l1.length c1] rfl (by (try simp only [List.map_toArray, List.map_cons, List.map_nil]); first | done | rfl | (simp only [List.length_drop, List.length_take]; rfl)) ?_; (with_reducible refine (diff_Right.calls k (l0.length : Int) _ _ l1 false _ ?side1 ?side2 A3.out).mono ?_); (case side1 => repeat (first | exact HR1.out | (with_reducible refine Kd.C_alloc ?_ _) | (with_reducible refine Kd.C_drewN ?_ _) | (with_reducible refine Kd.C_drew ?_))); (case side2 => exact HC1.out); rintro e w23 ⟨rfl, hb⟩; refine ⟨_, rfl, ?_⟩; have n0_ := Aside0.mk (below_step (by repeat (first | (with_reducible first | exact HB.out | apply below_alloc | apply pw_below_drewN | apply below_drew1) | exact HB.out)) hb); clear HB; have HB := n0_; clear n0_; (try clear hb); (try clear hb2); (try clear hk); (try clear hi)))
  go_ret
  exact ⟨_, by first | rfl | (simp [errW_none, errW_some] <;> rfl) | (simp [*, errW_none, errW_some] <;> rfl), by first | exact Kd.S_nil _ _ _ _ _ | exact Kd.N_nil _ _ _ _ _ | exact Kd.V_nil _ _ _ _ _ | exact Kd.Q_nil _ _ _ _ _ | exact Kd.R_nil _ _ _ _ _, by repeat (first | (with_reducible first | exact HB.out | apply below_alloc | apply pw_below_drewN | apply below_drew1) | exact HB.out)⟩

end Go.Proofs.Ytlabiajcohmjhaa.Pr
